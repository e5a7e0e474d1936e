/- Boxes, and two gateways behind the first exchange, on the machine. Conditions: none. -/
import Derived.Test.YtknbgkfojmedpaaGreatVd
import Derived.Test.YtknbgkfojmedpaaGreatAgx
set_option linter.unusedSimpArgs false
namespace Go.Proofs.YtknbgkfojmedpaaGreat
open Go.VM
def cmpI (a b : Int) : Int := if a < b then -1 else if b < a then 1 else 0
theorem e135 (a : Int) : CV VP 346 [.d (I a)] [] = some ⟨.d (B false), [], [], 0⟩ := by
  refine CV_run (vf := vf346) rfl rfl ?_
  rw [vf346_start]
  (repeat (first
    | refine RX_seq ?_
    | refine RX_block ?_
    | ((first | refine RX_reg ?_ | refine RX_cond' ?_ | refine RX_draw0 ?_ | refine RX_draw rfl ?_ | refine RX_skip ?_ | refine RX_gfrz ?_ | refine RX_exit ?_ | refine RX_ret ?_); try (simp only [go_sem, Nat.max_zero, List.isEmpty_cons, Int.reduceToNat, Nat.reducePow, Int.reduceEq, Int.reduceNe, Int.reduceLT, Int.reduceLE, Nat.reduceAdd, Nat.reduceLeDiff, ↓reduceIte, Nat.reduceLT, Nat.reduceMul, Nat.reduceSub, reduceCtorEq, frzLoc, rowCells, vAppM, beq_iff_eq, bne_iff_ne, bne_self_eq_false, beq_self_eq_true, beq_true, beq_false, I, B, w, vf346_res, vf346_keep]))))
theorem e136 (a : Int) : CV VP 347 [.d (U a)] [] = some ⟨.d (B false), [], [], 0⟩ := by
  refine CV_run (vf := vf347) rfl rfl ?_
  rw [vf347_start]
  (repeat (first
    | refine RX_seq ?_
    | refine RX_block ?_
    | ((first | refine RX_reg ?_ | refine RX_cond' ?_ | refine RX_draw0 ?_ | refine RX_draw rfl ?_ | refine RX_skip ?_ | refine RX_gfrz ?_ | refine RX_exit ?_ | refine RX_ret ?_); try (simp only [go_sem, Nat.max_zero, List.isEmpty_cons, Int.reduceToNat, Nat.reducePow, Int.reduceEq, Int.reduceNe, Int.reduceLT, Int.reduceLE, Nat.reduceAdd, Nat.reduceLeDiff, ↓reduceIte, Nat.reduceLT, Nat.reduceMul, Nat.reduceSub, reduceCtorEq, frzLoc, rowCells, vAppM, beq_iff_eq, bne_iff_ne, bne_self_eq_false, beq_self_eq_true, beq_true, beq_false, I, B, w, vf347_res, vf347_keep]))))
theorem e133 (a b : Int) : CV VP 335 [.d (I a), .d (I b)] [] = some ⟨.d (I (cmpI a b)), [], [], 0⟩ := by
  unfold cmpI
  refine CV_run (vf := vf335) rfl rfl ?_
  rw [vf335_start]
  by_cases h1 : a < b
  · (repeat (first
    | refine RX_seq ?_
    | refine RX_block ?_
    | ((first | refine RX_reg ?_ | refine RX_cond' ?_ | refine RX_draw0 ?_ | refine RX_draw rfl ?_ | refine RX_skip ?_ | refine RX_gfrz ?_ | refine RX_exit ?_ | refine RX_ret ?_); try (simp only [go_sem, Nat.max_zero, List.isEmpty_cons, Int.reduceToNat, Nat.reducePow, Int.reduceEq, Int.reduceNe, Int.reduceLT, Int.reduceLE, Nat.reduceAdd, Nat.reduceLeDiff, ↓reduceIte, Nat.reduceLT, Nat.reduceMul, Nat.reduceSub, reduceCtorEq, frzLoc, rowCells, vAppM, beq_iff_eq, bne_iff_ne, bne_self_eq_false, beq_self_eq_true, beq_true, beq_false, I, B, w, vf335_res, vf335_keep, e135, h1]))))
  · by_cases h2 : b < a
    · (repeat (first
    | refine RX_seq ?_
    | refine RX_block ?_
    | ((first | refine RX_reg ?_ | refine RX_cond' ?_ | refine RX_draw0 ?_ | refine RX_draw rfl ?_ | refine RX_skip ?_ | refine RX_gfrz ?_ | refine RX_exit ?_ | refine RX_ret ?_); try (simp only [go_sem, Nat.max_zero, List.isEmpty_cons, Int.reduceToNat, Nat.reducePow, Int.reduceEq, Int.reduceNe, Int.reduceLT, Int.reduceLE, Nat.reduceAdd, Nat.reduceLeDiff, ↓reduceIte, Nat.reduceLT, Nat.reduceMul, Nat.reduceSub, reduceCtorEq, frzLoc, rowCells, vAppM, beq_iff_eq, bne_iff_ne, bne_self_eq_false, beq_self_eq_true, beq_true, beq_false, I, B, w, vf335_res, vf335_keep, e135, h1, h2, gt_iff_lt]))))
    · (repeat (first
    | refine RX_seq ?_
    | refine RX_block ?_
    | ((first | refine RX_reg ?_ | refine RX_cond' ?_ | refine RX_draw0 ?_ | refine RX_draw rfl ?_ | refine RX_skip ?_ | refine RX_gfrz ?_ | refine RX_exit ?_ | refine RX_ret ?_); try (simp only [go_sem, Nat.max_zero, List.isEmpty_cons, Int.reduceToNat, Nat.reducePow, Int.reduceEq, Int.reduceNe, Int.reduceLT, Int.reduceLE, Nat.reduceAdd, Nat.reduceLeDiff, ↓reduceIte, Nat.reduceLT, Nat.reduceMul, Nat.reduceSub, reduceCtorEq, frzLoc, rowCells, vAppM, beq_iff_eq, bne_iff_ne, bne_self_eq_false, beq_self_eq_true, beq_true, beq_false, I, B, w, vf335_res, vf335_keep, e135, h1, h2, gt_iff_lt]))))
theorem e134 (a b : Int) : CV VP 336 [.d (U a), .d (U b)] [] = some ⟨.d (I (cmpI a b)), [], [], 0⟩ := by
  unfold cmpI
  refine CV_run (vf := vf336) rfl rfl ?_
  rw [vf336_start]
  by_cases h1 : a < b
  · (repeat (first
    | refine RX_seq ?_
    | refine RX_block ?_
    | ((first | refine RX_reg ?_ | refine RX_cond' ?_ | refine RX_draw0 ?_ | refine RX_draw rfl ?_ | refine RX_skip ?_ | refine RX_gfrz ?_ | refine RX_exit ?_ | refine RX_ret ?_); try (simp only [go_sem, Nat.max_zero, List.isEmpty_cons, Int.reduceToNat, Nat.reducePow, Int.reduceEq, Int.reduceNe, Int.reduceLT, Int.reduceLE, Nat.reduceAdd, Nat.reduceLeDiff, ↓reduceIte, Nat.reduceLT, Nat.reduceMul, Nat.reduceSub, reduceCtorEq, frzLoc, rowCells, vAppM, beq_iff_eq, bne_iff_ne, bne_self_eq_false, beq_self_eq_true, beq_true, beq_false, I, B, w, vf336_res, vf336_keep, e136, h1]))))
  · by_cases h2 : b < a
    · (repeat (first
    | refine RX_seq ?_
    | refine RX_block ?_
    | ((first | refine RX_reg ?_ | refine RX_cond' ?_ | refine RX_draw0 ?_ | refine RX_draw rfl ?_ | refine RX_skip ?_ | refine RX_gfrz ?_ | refine RX_exit ?_ | refine RX_ret ?_); try (simp only [go_sem, Nat.max_zero, List.isEmpty_cons, Int.reduceToNat, Nat.reducePow, Int.reduceEq, Int.reduceNe, Int.reduceLT, Int.reduceLE, Nat.reduceAdd, Nat.reduceLeDiff, ↓reduceIte, Nat.reduceLT, Nat.reduceMul, Nat.reduceSub, reduceCtorEq, frzLoc, rowCells, vAppM, beq_iff_eq, bne_iff_ne, bne_self_eq_false, beq_self_eq_true, beq_true, beq_false, I, B, w, vf336_res, vf336_keep, e136, h1, h2, gt_iff_lt]))))
    · (repeat (first
    | refine RX_seq ?_
    | refine RX_block ?_
    | ((first | refine RX_reg ?_ | refine RX_cond' ?_ | refine RX_draw0 ?_ | refine RX_draw rfl ?_ | refine RX_skip ?_ | refine RX_gfrz ?_ | refine RX_exit ?_ | refine RX_ret ?_); try (simp only [go_sem, Nat.max_zero, List.isEmpty_cons, Int.reduceToNat, Nat.reducePow, Int.reduceEq, Int.reduceNe, Int.reduceLT, Int.reduceLE, Nat.reduceAdd, Nat.reduceLeDiff, ↓reduceIte, Nat.reduceLT, Nat.reduceMul, Nat.reduceSub, reduceCtorEq, frzLoc, rowCells, vAppM, beq_iff_eq, bne_iff_ne, bne_self_eq_false, beq_self_eq_true, beq_true, beq_false, I, B, w, vf336_res, vf336_keep, e136, h1, h2, gt_iff_lt]))))
def or3 (a b c : Int) : Int := if a ≠ 0 then a else if b ≠ 0 then b else c
theorem e132 (a b c : Int) : CV VP 334 [.d (.sl [[I a], [I b], [I c]])] [] = some ⟨.d (I (or3 a b c)), [], [], 0⟩ := by
  unfold or3
  refine CV_run (vf := vf334) rfl rfl ?_
  rw [vf334_start]
  have w1 : IntKind.i64.wrap (0 + 1) = 1 := rfl
  have w2 : IntKind.i64.wrap (1 + 1) = 2 := rfl
  have w3 : IntKind.i64.wrap (2 + 1) = 3 := rfl
  by_cases h1 : a = 0
  · by_cases h2 : b = 0
    · by_cases h3 : c = 0
      · (repeat (first
    | refine RX_seq ?_
    | refine RX_block ?_
    | ((first | refine RX_reg ?_ | refine RX_cond' ?_ | refine RX_draw0 ?_ | refine RX_draw rfl ?_ | refine RX_skip ?_ | refine RX_gfrz ?_ | refine RX_exit ?_ | refine RX_ret ?_); try (simp only [go_sem, Nat.max_zero, List.isEmpty_cons, Int.reduceToNat, Nat.reducePow, Int.reduceEq, Int.reduceNe, Int.reduceLT, Int.reduceLE, Nat.reduceAdd, Nat.reduceLeDiff, ↓reduceIte, Nat.reduceLT, Nat.reduceMul, Nat.reduceSub, reduceCtorEq, frzLoc, rowCells, vAppM, beq_iff_eq, bne_iff_ne, bne_self_eq_false, beq_self_eq_true, beq_true, beq_false, I, B, w, vf334_res, vf334_keep, h1, h2, h3]))))
        refine RX_loop ?_
        (refine RL_head ?_; (simp only [go_sem, Nat.max_zero, List.isEmpty_cons, Int.reduceToNat, Nat.reducePow, Int.reduceEq, Int.reduceNe, Int.reduceLT, Int.reduceLE, Nat.reduceAdd, Nat.reduceLeDiff, ↓reduceIte, Nat.reduceLT, Nat.reduceMul, Nat.reduceSub, reduceCtorEq, frzLoc, rowCells, vAppM, beq_iff_eq, bne_iff_ne, bne_self_eq_false, beq_self_eq_true, beq_true, beq_false, I, B, w, St.head, forget, vf334K0, RLK_some, vf334_res, vf334_keep, h1, h2, h3, w1]); refine vf334L0_go ?_; ((repeat (first
    | refine RX_seq ?_
    | refine RX_block ?_
    | ((first | refine RX_reg ?_ | refine RX_cond' ?_ | refine RX_draw0 ?_ | refine RX_draw rfl ?_ | refine RX_skip ?_ | refine RX_gfrz ?_ | refine RX_exit ?_ | refine RX_ret ?_); try (simp only [go_sem, Nat.max_zero, List.isEmpty_cons, Int.reduceToNat, Nat.reducePow, Int.reduceEq, Int.reduceNe, Int.reduceLT, Int.reduceLE, Nat.reduceAdd, Nat.reduceLeDiff, ↓reduceIte, Nat.reduceLT, Nat.reduceMul, Nat.reduceSub, reduceCtorEq, frzLoc, rowCells, vAppM, beq_iff_eq, bne_iff_ne, bne_self_eq_false, beq_self_eq_true, beq_true, beq_false, I, B, w, vf334_res, vf334_keep, h1, h2, h3, w1]))))))
        (refine RL_head ?_; (simp only [go_sem, Nat.max_zero, List.isEmpty_cons, Int.reduceToNat, Nat.reducePow, Int.reduceEq, Int.reduceNe, Int.reduceLT, Int.reduceLE, Nat.reduceAdd, Nat.reduceLeDiff, ↓reduceIte, Nat.reduceLT, Nat.reduceMul, Nat.reduceSub, reduceCtorEq, frzLoc, rowCells, vAppM, beq_iff_eq, bne_iff_ne, bne_self_eq_false, beq_self_eq_true, beq_true, beq_false, I, B, w, St.head, forget, vf334K0, RLK_some, vf334_res, vf334_keep, h1, h2, h3, w2]); refine vf334L0_go ?_; ((repeat (first
    | refine RX_seq ?_
    | refine RX_block ?_
    | ((first | refine RX_reg ?_ | refine RX_cond' ?_ | refine RX_draw0 ?_ | refine RX_draw rfl ?_ | refine RX_skip ?_ | refine RX_gfrz ?_ | refine RX_exit ?_ | refine RX_ret ?_); try (simp only [go_sem, Nat.max_zero, List.isEmpty_cons, Int.reduceToNat, Nat.reducePow, Int.reduceEq, Int.reduceNe, Int.reduceLT, Int.reduceLE, Nat.reduceAdd, Nat.reduceLeDiff, ↓reduceIte, Nat.reduceLT, Nat.reduceMul, Nat.reduceSub, reduceCtorEq, frzLoc, rowCells, vAppM, beq_iff_eq, bne_iff_ne, bne_self_eq_false, beq_self_eq_true, beq_true, beq_false, I, B, w, vf334_res, vf334_keep, h1, h2, h3, w2]))))))
        (refine RL_head ?_; (simp only [go_sem, Nat.max_zero, List.isEmpty_cons, Int.reduceToNat, Nat.reducePow, Int.reduceEq, Int.reduceNe, Int.reduceLT, Int.reduceLE, Nat.reduceAdd, Nat.reduceLeDiff, ↓reduceIte, Nat.reduceLT, Nat.reduceMul, Nat.reduceSub, reduceCtorEq, frzLoc, rowCells, vAppM, beq_iff_eq, bne_iff_ne, bne_self_eq_false, beq_self_eq_true, beq_true, beq_false, I, B, w, St.head, forget, vf334K0, RLK_some, vf334_res, vf334_keep, h1, h2, h3, w3]); refine vf334L0_go ?_; ((repeat (first
    | refine RX_seq ?_
    | refine RX_block ?_
    | ((first | refine RX_reg ?_ | refine RX_cond' ?_ | refine RX_draw0 ?_ | refine RX_draw rfl ?_ | refine RX_skip ?_ | refine RX_gfrz ?_ | refine RX_exit ?_ | refine RX_ret ?_); try (simp only [go_sem, Nat.max_zero, List.isEmpty_cons, Int.reduceToNat, Nat.reducePow, Int.reduceEq, Int.reduceNe, Int.reduceLT, Int.reduceLE, Nat.reduceAdd, Nat.reduceLeDiff, ↓reduceIte, Nat.reduceLT, Nat.reduceMul, Nat.reduceSub, reduceCtorEq, frzLoc, rowCells, vAppM, beq_iff_eq, bne_iff_ne, bne_self_eq_false, beq_self_eq_true, beq_true, beq_false, I, B, w, vf334_res, vf334_keep, h1, h2, h3, w3]))))))
        (refine RL_head ?_; (simp only [go_sem, Nat.max_zero, List.isEmpty_cons, Int.reduceToNat, Nat.reducePow, Int.reduceEq, Int.reduceNe, Int.reduceLT, Int.reduceLE, Nat.reduceAdd, Nat.reduceLeDiff, ↓reduceIte, Nat.reduceLT, Nat.reduceMul, Nat.reduceSub, reduceCtorEq, frzLoc, rowCells, vAppM, beq_iff_eq, bne_iff_ne, bne_self_eq_false, beq_self_eq_true, beq_true, beq_false, I, B, w, St.head, forget, vf334K0, RLK_some, vf334_res, vf334_keep, h1, h2, h3]); refine vf334L0_go ?_; ((repeat (first
    | refine RX_seq ?_
    | refine RX_block ?_
    | ((first | refine RX_reg ?_ | refine RX_cond' ?_ | refine RX_draw0 ?_ | refine RX_draw rfl ?_ | refine RX_skip ?_ | refine RX_gfrz ?_ | refine RX_exit ?_ | refine RX_ret ?_); try (simp only [go_sem, Nat.max_zero, List.isEmpty_cons, Int.reduceToNat, Nat.reducePow, Int.reduceEq, Int.reduceNe, Int.reduceLT, Int.reduceLE, Nat.reduceAdd, Nat.reduceLeDiff, ↓reduceIte, Nat.reduceLT, Nat.reduceMul, Nat.reduceSub, reduceCtorEq, frzLoc, rowCells, vAppM, beq_iff_eq, bne_iff_ne, bne_self_eq_false, beq_self_eq_true, beq_true, beq_false, I, B, w, vf334_res, vf334_keep, h1, h2, h3]))))))
      · (repeat (first
    | refine RX_seq ?_
    | refine RX_block ?_
    | ((first | refine RX_reg ?_ | refine RX_cond' ?_ | refine RX_draw0 ?_ | refine RX_draw rfl ?_ | refine RX_skip ?_ | refine RX_gfrz ?_ | refine RX_exit ?_ | refine RX_ret ?_); try (simp only [go_sem, Nat.max_zero, List.isEmpty_cons, Int.reduceToNat, Nat.reducePow, Int.reduceEq, Int.reduceNe, Int.reduceLT, Int.reduceLE, Nat.reduceAdd, Nat.reduceLeDiff, ↓reduceIte, Nat.reduceLT, Nat.reduceMul, Nat.reduceSub, reduceCtorEq, frzLoc, rowCells, vAppM, beq_iff_eq, bne_iff_ne, bne_self_eq_false, beq_self_eq_true, beq_true, beq_false, I, B, w, vf334_res, vf334_keep, h1, h2, h3]))))
        refine RX_loop ?_
        (refine RL_head ?_; (simp only [go_sem, Nat.max_zero, List.isEmpty_cons, Int.reduceToNat, Nat.reducePow, Int.reduceEq, Int.reduceNe, Int.reduceLT, Int.reduceLE, Nat.reduceAdd, Nat.reduceLeDiff, ↓reduceIte, Nat.reduceLT, Nat.reduceMul, Nat.reduceSub, reduceCtorEq, frzLoc, rowCells, vAppM, beq_iff_eq, bne_iff_ne, bne_self_eq_false, beq_self_eq_true, beq_true, beq_false, I, B, w, St.head, forget, vf334K0, RLK_some, vf334_res, vf334_keep, h1, h2, h3, w1]); refine vf334L0_go ?_; ((repeat (first
    | refine RX_seq ?_
    | refine RX_block ?_
    | ((first | refine RX_reg ?_ | refine RX_cond' ?_ | refine RX_draw0 ?_ | refine RX_draw rfl ?_ | refine RX_skip ?_ | refine RX_gfrz ?_ | refine RX_exit ?_ | refine RX_ret ?_); try (simp only [go_sem, Nat.max_zero, List.isEmpty_cons, Int.reduceToNat, Nat.reducePow, Int.reduceEq, Int.reduceNe, Int.reduceLT, Int.reduceLE, Nat.reduceAdd, Nat.reduceLeDiff, ↓reduceIte, Nat.reduceLT, Nat.reduceMul, Nat.reduceSub, reduceCtorEq, frzLoc, rowCells, vAppM, beq_iff_eq, bne_iff_ne, bne_self_eq_false, beq_self_eq_true, beq_true, beq_false, I, B, w, vf334_res, vf334_keep, h1, h2, h3, w1]))))))
        (refine RL_head ?_; (simp only [go_sem, Nat.max_zero, List.isEmpty_cons, Int.reduceToNat, Nat.reducePow, Int.reduceEq, Int.reduceNe, Int.reduceLT, Int.reduceLE, Nat.reduceAdd, Nat.reduceLeDiff, ↓reduceIte, Nat.reduceLT, Nat.reduceMul, Nat.reduceSub, reduceCtorEq, frzLoc, rowCells, vAppM, beq_iff_eq, bne_iff_ne, bne_self_eq_false, beq_self_eq_true, beq_true, beq_false, I, B, w, St.head, forget, vf334K0, RLK_some, vf334_res, vf334_keep, h1, h2, h3, w2]); refine vf334L0_go ?_; ((repeat (first
    | refine RX_seq ?_
    | refine RX_block ?_
    | ((first | refine RX_reg ?_ | refine RX_cond' ?_ | refine RX_draw0 ?_ | refine RX_draw rfl ?_ | refine RX_skip ?_ | refine RX_gfrz ?_ | refine RX_exit ?_ | refine RX_ret ?_); try (simp only [go_sem, Nat.max_zero, List.isEmpty_cons, Int.reduceToNat, Nat.reducePow, Int.reduceEq, Int.reduceNe, Int.reduceLT, Int.reduceLE, Nat.reduceAdd, Nat.reduceLeDiff, ↓reduceIte, Nat.reduceLT, Nat.reduceMul, Nat.reduceSub, reduceCtorEq, frzLoc, rowCells, vAppM, beq_iff_eq, bne_iff_ne, bne_self_eq_false, beq_self_eq_true, beq_true, beq_false, I, B, w, vf334_res, vf334_keep, h1, h2, h3, w2]))))))
        (refine RL_head ?_; (simp only [go_sem, Nat.max_zero, List.isEmpty_cons, Int.reduceToNat, Nat.reducePow, Int.reduceEq, Int.reduceNe, Int.reduceLT, Int.reduceLE, Nat.reduceAdd, Nat.reduceLeDiff, ↓reduceIte, Nat.reduceLT, Nat.reduceMul, Nat.reduceSub, reduceCtorEq, frzLoc, rowCells, vAppM, beq_iff_eq, bne_iff_ne, bne_self_eq_false, beq_self_eq_true, beq_true, beq_false, I, B, w, St.head, forget, vf334K0, RLK_some, vf334_res, vf334_keep, h1, h2, h3]); refine vf334L0_go ?_; ((repeat (first
    | refine RX_seq ?_
    | refine RX_block ?_
    | ((first | refine RX_reg ?_ | refine RX_cond' ?_ | refine RX_draw0 ?_ | refine RX_draw rfl ?_ | refine RX_skip ?_ | refine RX_gfrz ?_ | refine RX_exit ?_ | refine RX_ret ?_); try (simp only [go_sem, Nat.max_zero, List.isEmpty_cons, Int.reduceToNat, Nat.reducePow, Int.reduceEq, Int.reduceNe, Int.reduceLT, Int.reduceLE, Nat.reduceAdd, Nat.reduceLeDiff, ↓reduceIte, Nat.reduceLT, Nat.reduceMul, Nat.reduceSub, reduceCtorEq, frzLoc, rowCells, vAppM, beq_iff_eq, bne_iff_ne, bne_self_eq_false, beq_self_eq_true, beq_true, beq_false, I, B, w, vf334_res, vf334_keep, h1, h2, h3]))))))
    · (repeat (first
    | refine RX_seq ?_
    | refine RX_block ?_
    | ((first | refine RX_reg ?_ | refine RX_cond' ?_ | refine RX_draw0 ?_ | refine RX_draw rfl ?_ | refine RX_skip ?_ | refine RX_gfrz ?_ | refine RX_exit ?_ | refine RX_ret ?_); try (simp only [go_sem, Nat.max_zero, List.isEmpty_cons, Int.reduceToNat, Nat.reducePow, Int.reduceEq, Int.reduceNe, Int.reduceLT, Int.reduceLE, Nat.reduceAdd, Nat.reduceLeDiff, ↓reduceIte, Nat.reduceLT, Nat.reduceMul, Nat.reduceSub, reduceCtorEq, frzLoc, rowCells, vAppM, beq_iff_eq, bne_iff_ne, bne_self_eq_false, beq_self_eq_true, beq_true, beq_false, I, B, w, vf334_res, vf334_keep, h1, h2]))))
      refine RX_loop ?_
      (refine RL_head ?_; (simp only [go_sem, Nat.max_zero, List.isEmpty_cons, Int.reduceToNat, Nat.reducePow, Int.reduceEq, Int.reduceNe, Int.reduceLT, Int.reduceLE, Nat.reduceAdd, Nat.reduceLeDiff, ↓reduceIte, Nat.reduceLT, Nat.reduceMul, Nat.reduceSub, reduceCtorEq, frzLoc, rowCells, vAppM, beq_iff_eq, bne_iff_ne, bne_self_eq_false, beq_self_eq_true, beq_true, beq_false, I, B, w, St.head, forget, vf334K0, RLK_some, vf334_res, vf334_keep, h1, h2, w1]); refine vf334L0_go ?_; ((repeat (first
    | refine RX_seq ?_
    | refine RX_block ?_
    | ((first | refine RX_reg ?_ | refine RX_cond' ?_ | refine RX_draw0 ?_ | refine RX_draw rfl ?_ | refine RX_skip ?_ | refine RX_gfrz ?_ | refine RX_exit ?_ | refine RX_ret ?_); try (simp only [go_sem, Nat.max_zero, List.isEmpty_cons, Int.reduceToNat, Nat.reducePow, Int.reduceEq, Int.reduceNe, Int.reduceLT, Int.reduceLE, Nat.reduceAdd, Nat.reduceLeDiff, ↓reduceIte, Nat.reduceLT, Nat.reduceMul, Nat.reduceSub, reduceCtorEq, frzLoc, rowCells, vAppM, beq_iff_eq, bne_iff_ne, bne_self_eq_false, beq_self_eq_true, beq_true, beq_false, I, B, w, vf334_res, vf334_keep, h1, h2, w1]))))))
      (refine RL_head ?_; (simp only [go_sem, Nat.max_zero, List.isEmpty_cons, Int.reduceToNat, Nat.reducePow, Int.reduceEq, Int.reduceNe, Int.reduceLT, Int.reduceLE, Nat.reduceAdd, Nat.reduceLeDiff, ↓reduceIte, Nat.reduceLT, Nat.reduceMul, Nat.reduceSub, reduceCtorEq, frzLoc, rowCells, vAppM, beq_iff_eq, bne_iff_ne, bne_self_eq_false, beq_self_eq_true, beq_true, beq_false, I, B, w, St.head, forget, vf334K0, RLK_some, vf334_res, vf334_keep, h1, h2, w2]); refine vf334L0_go ?_; ((repeat (first
    | refine RX_seq ?_
    | refine RX_block ?_
    | ((first | refine RX_reg ?_ | refine RX_cond' ?_ | refine RX_draw0 ?_ | refine RX_draw rfl ?_ | refine RX_skip ?_ | refine RX_gfrz ?_ | refine RX_exit ?_ | refine RX_ret ?_); try (simp only [go_sem, Nat.max_zero, List.isEmpty_cons, Int.reduceToNat, Nat.reducePow, Int.reduceEq, Int.reduceNe, Int.reduceLT, Int.reduceLE, Nat.reduceAdd, Nat.reduceLeDiff, ↓reduceIte, Nat.reduceLT, Nat.reduceMul, Nat.reduceSub, reduceCtorEq, frzLoc, rowCells, vAppM, beq_iff_eq, bne_iff_ne, bne_self_eq_false, beq_self_eq_true, beq_true, beq_false, I, B, w, vf334_res, vf334_keep, h1, h2, w2]))))))
  · (repeat (first
    | refine RX_seq ?_
    | refine RX_block ?_
    | ((first | refine RX_reg ?_ | refine RX_cond' ?_ | refine RX_draw0 ?_ | refine RX_draw rfl ?_ | refine RX_skip ?_ | refine RX_gfrz ?_ | refine RX_exit ?_ | refine RX_ret ?_); try (simp only [go_sem, Nat.max_zero, List.isEmpty_cons, Int.reduceToNat, Nat.reducePow, Int.reduceEq, Int.reduceNe, Int.reduceLT, Int.reduceLE, Nat.reduceAdd, Nat.reduceLeDiff, ↓reduceIte, Nat.reduceLT, Nat.reduceMul, Nat.reduceSub, reduceCtorEq, frzLoc, rowCells, vAppM, beq_iff_eq, bne_iff_ne, bne_self_eq_false, beq_self_eq_true, beq_true, beq_false, I, B, w, vf334_res, vf334_keep, h1]))))
    refine RX_loop ?_
    (refine RL_head ?_; (simp only [go_sem, Nat.max_zero, List.isEmpty_cons, Int.reduceToNat, Nat.reducePow, Int.reduceEq, Int.reduceNe, Int.reduceLT, Int.reduceLE, Nat.reduceAdd, Nat.reduceLeDiff, ↓reduceIte, Nat.reduceLT, Nat.reduceMul, Nat.reduceSub, reduceCtorEq, frzLoc, rowCells, vAppM, beq_iff_eq, bne_iff_ne, bne_self_eq_false, beq_self_eq_true, beq_true, beq_false, I, B, w, St.head, forget, vf334K0, RLK_some, vf334_res, vf334_keep, h1, w1]); refine vf334L0_go ?_; ((repeat (first
    | refine RX_seq ?_
    | refine RX_block ?_
    | ((first | refine RX_reg ?_ | refine RX_cond' ?_ | refine RX_draw0 ?_ | refine RX_draw rfl ?_ | refine RX_skip ?_ | refine RX_gfrz ?_ | refine RX_exit ?_ | refine RX_ret ?_); try (simp only [go_sem, Nat.max_zero, List.isEmpty_cons, Int.reduceToNat, Nat.reducePow, Int.reduceEq, Int.reduceNe, Int.reduceLT, Int.reduceLE, Nat.reduceAdd, Nat.reduceLeDiff, ↓reduceIte, Nat.reduceLT, Nat.reduceMul, Nat.reduceSub, reduceCtorEq, frzLoc, rowCells, vAppM, beq_iff_eq, bne_iff_ne, bne_self_eq_false, beq_self_eq_true, beq_true, beq_false, I, B, w, vf334_res, vf334_keep, h1, w1]))))))
theorem e131 (f h a f' h' b : Int) : CV VP 317 [.agg [.d (I f), .d (U h), .d (U a)], .agg [.d (I f'), .d (U h'), .d (U b)]] [] = some ⟨.d (I (or3 (cmpI f f') (cmpI h h') (cmpI a b))), [], [], 0⟩ := by
  refine CV_run (vf := vf317) rfl rfl ?_
  rw [vf317_start]
  (repeat (first
    | refine RX_seq ?_
    | refine RX_block ?_
    | ((first | refine RX_reg ?_ | refine RX_cond' ?_ | refine RX_draw0 ?_ | refine RX_draw rfl ?_ | refine RX_skip ?_ | refine RX_gfrz ?_ | refine RX_exit ?_ | refine RX_ret ?_); try (simp only [go_sem, Nat.max_zero, List.isEmpty_cons, Int.reduceToNat, Nat.reducePow, Int.reduceEq, Int.reduceNe, Int.reduceLT, Int.reduceLE, Nat.reduceAdd, Nat.reduceLeDiff, ↓reduceIte, Nat.reduceLT, Nat.reduceMul, Nat.reduceSub, reduceCtorEq, frzLoc, rowCells, vAppM, beq_iff_eq, bne_iff_ne, bne_self_eq_false, beq_self_eq_true, beq_true, beq_false, I, B, w, vf317_res, vf317_keep, e133, e134, e132]))))
theorem e130 (n : Int) : CV VP 316 [.d (I n)] [] = some ⟨.agg [.d (I 0), .d (U 0), .d (U (IntKind.u64.wrap (IntKind.i64.wrap (n + 1))))], [], [], 0⟩ := by
  refine CV_run (vf := vf316) rfl rfl ?_
  rw [vf316_start]
  (repeat (first
    | refine RX_seq ?_
    | refine RX_block ?_
    | ((first | refine RX_reg ?_ | refine RX_cond' ?_ | refine RX_draw0 ?_ | refine RX_draw rfl ?_ | refine RX_skip ?_ | refine RX_gfrz ?_ | refine RX_exit ?_ | refine RX_ret ?_); try (simp only [go_sem, Nat.max_zero, List.isEmpty_cons, Int.reduceToNat, Nat.reducePow, Int.reduceEq, Int.reduceNe, Int.reduceLT, Int.reduceLE, Nat.reduceAdd, Nat.reduceLeDiff, ↓reduceIte, Nat.reduceLT, Nat.reduceMul, Nat.reduceSub, reduceCtorEq, frzLoc, rowCells, vAppM, beq_iff_eq, bne_iff_ne, bne_self_eq_false, beq_self_eq_true, beq_true, beq_false, I, B, w, vf316_res, vf316_keep]))))
theorem e128 (f h a : Int) : CV VP 297 [.agg [.d (I f), .d (U h), .d (U a)]] [] = some ⟨.d (I (w (w a - 1))), [], [], 0⟩ := by
  refine CV_run (vf := vf297) rfl rfl ?_
  rw [vf297_start]
  (repeat (first
    | refine RX_seq ?_
    | refine RX_block ?_
    | ((first | refine RX_reg ?_ | refine RX_cond' ?_ | refine RX_draw0 ?_ | refine RX_draw rfl ?_ | refine RX_skip ?_ | refine RX_gfrz ?_ | refine RX_exit ?_ | refine RX_ret ?_); try (simp only [go_sem, Nat.max_zero, List.isEmpty_cons, Int.reduceToNat, Nat.reducePow, Int.reduceEq, Int.reduceNe, Int.reduceLT, Int.reduceLE, Nat.reduceAdd, Nat.reduceLeDiff, ↓reduceIte, Nat.reduceLT, Nat.reduceMul, Nat.reduceSub, reduceCtorEq, frzLoc, rowCells, vAppM, beq_iff_eq, bne_iff_ne, bne_self_eq_false, beq_self_eq_true, beq_true, beq_false, I, B, w, vf297_res, vf297_keep]))))
theorem e127 (f h a : Int) : CV VP 296 [.agg [.d (I f), .d (U h), .d (U a)]] [] = some ⟨.agg [.d (I f), .d (U h), .d (U a)], [], [], 0⟩ := by
  refine CV_run (vf := vf296) rfl rfl ?_
  rw [vf296_start]
  (repeat (first
    | refine RX_seq ?_
    | refine RX_block ?_
    | ((first | refine RX_reg ?_ | refine RX_cond' ?_ | refine RX_draw0 ?_ | refine RX_draw rfl ?_ | refine RX_skip ?_ | refine RX_gfrz ?_ | refine RX_exit ?_ | refine RX_ret ?_); try (simp only [go_sem, Nat.max_zero, List.isEmpty_cons, Int.reduceToNat, Nat.reducePow, Int.reduceEq, Int.reduceNe, Int.reduceLT, Int.reduceLE, Nat.reduceAdd, Nat.reduceLeDiff, ↓reduceIte, Nat.reduceLT, Nat.reduceMul, Nat.reduceSub, reduceCtorEq, frzLoc, rowCells, vAppM, beq_iff_eq, bne_iff_ne, bne_self_eq_false, beq_self_eq_true, beq_true, beq_false, I, B, w, vf296_res, vf296_keep]))))
theorem e124 (f h a : Int) : CV VP 293 [.agg [.d (I f), .d (U h), .d (U a)]] [] = some ⟨.agg [.d (I f), .d (U h), .d (U a)], [], [], 0⟩ := by
  refine CV_run (vf := vf293) rfl rfl ?_
  rw [vf293_start]
  (repeat (first
    | refine RX_seq ?_
    | refine RX_block ?_
    | ((first | refine RX_reg ?_ | refine RX_cond' ?_ | refine RX_draw0 ?_ | refine RX_draw rfl ?_ | refine RX_skip ?_ | refine RX_gfrz ?_ | refine RX_exit ?_ | refine RX_ret ?_); try (simp only [go_sem, Nat.max_zero, List.isEmpty_cons, Int.reduceToNat, Nat.reducePow, Int.reduceEq, Int.reduceNe, Int.reduceLT, Int.reduceLE, Nat.reduceAdd, Nat.reduceLeDiff, ↓reduceIte, Nat.reduceLT, Nat.reduceMul, Nat.reduceSub, reduceCtorEq, frzLoc, rowCells, vAppM, beq_iff_eq, bne_iff_ne, bne_self_eq_false, beq_self_eq_true, beq_true, beq_false, I, B, w, vf293_res, vf293_keep]))))
theorem e125 (m n : Int) : CV VP 294 [.d (I m), .d (I n)] [] = some ⟨.agg [.d (I 0), .d (U 0), .d (U (IntKind.u64.wrap (IntKind.i64.wrap (m + 1)))), .d (I 0), .d (U 0), .d (U (IntKind.u64.wrap (IntKind.i64.wrap (n + 1))))], [], [], 0⟩ := by
  refine CV_run (vf := vf294) rfl rfl ?_
  rw [vf294_start]
  (repeat (first
    | refine RX_seq ?_
    | refine RX_block ?_
    | ((first | refine RX_reg ?_ | refine RX_cond' ?_ | refine RX_draw0 ?_ | refine RX_draw rfl ?_ | refine RX_skip ?_ | refine RX_gfrz ?_ | refine RX_exit ?_ | refine RX_ret ?_); try (simp only [go_sem, Nat.max_zero, List.isEmpty_cons, Int.reduceToNat, Nat.reducePow, Int.reduceEq, Int.reduceNe, Int.reduceLT, Int.reduceLE, Nat.reduceAdd, Nat.reduceLeDiff, ↓reduceIte, Nat.reduceLT, Nat.reduceMul, Nat.reduceSub, reduceCtorEq, frzLoc, rowCells, vAppM, beq_iff_eq, bne_iff_ne, bne_self_eq_false, beq_self_eq_true, beq_true, beq_false, I, B, w, vf294_res, vf294_keep, e130]))))
end Go.Proofs.YtknbgkfojmedpaaGreat
namespace Go.Proofs.YtknbgkfojmedpaaGreat
open Go.VM
theorem cmpI_self (a : Int) : cmpI a a = 0 := by simp [cmpI]
theorem or3_00 (x : Int) : or3 0 0 x = x := by simp [or3]
theorem cmpI_pos {a b : Int} : (0 < cmpI a b) ↔ (b < a) := by
  unfold cmpI
  split
  · omega
  · split <;> omega
theorem cmpI_neg {a b : Int} : (cmpI a b < 0) ↔ (a < b) := by
  unfold cmpI
  split
  · omega
  · split <;> omega
theorem cmpI_le {a b : Int} : (cmpI a b ≤ 0) ↔ (a ≤ b) := by
  unfold cmpI
  split
  · omega
  · split <;> omega
theorem or3_lt {a b : Int} (h : a < b) (y z : Int) : or3 (cmpI a b) y z = -1 := by simp [or3, cmpI, h]
theorem or3_gt {a b : Int} (h : b < a) (y z : Int) : or3 (cmpI a b) y z = 1 := by
  have : ¬ a < b := by omega
  simp [or3, cmpI, h, this]
theorem e126 (f h a b c d : Int) : CV VP 295 [.agg [.d (I f), .d (U h), .d (U a), .d (I f), .d (U h), .d (U b)], .agg [.d (I f), .d (U h), .d (U c), .d (I f), .d (U h), .d (U d)]] [] = some ⟨.tup [.agg [.d (I f), .d (U h), .d (U (max a c)), .d (I f), .d (U h), .d (U (min b d))], .d (B (decide (max a c ≤ min b d)))], [], [], 0⟩ := by
  refine CV_run (vf := vf295) rfl rfl ?_
  rw [vf295_start]
  by_cases h1 : a < c
  · have m1 : max a c = c := by omega
    by_cases h2 : d < b
    · have m2 : min b d = d := by omega
      (repeat (first
    | refine RX_seq ?_
    | refine RX_block ?_
    | ((first | refine RX_reg ?_ | refine RX_cond' ?_ | refine RX_draw0 ?_ | refine RX_draw rfl ?_ | refine RX_skip ?_ | refine RX_gfrz ?_ | refine RX_exit ?_ | refine RX_ret ?_); try (simp only [go_sem, Nat.max_zero, List.isEmpty_cons, Int.reduceToNat, Nat.reducePow, Int.reduceEq, Int.reduceNe, Int.reduceLT, Int.reduceLE, Nat.reduceAdd, Nat.reduceLeDiff, ↓reduceIte, Nat.reduceLT, Nat.reduceMul, Nat.reduceSub, reduceCtorEq, frzLoc, rowCells, vAppM, beq_iff_eq, bne_iff_ne, bne_self_eq_false, beq_self_eq_true, beq_true, beq_false, I, B, w, vf295_res, vf295_keep, e131, cmpI_self, or3_00, cmpI_pos, cmpI_neg, cmpI_le, gt_iff_lt, h1, h2, m1, m2]))))
    · have m2 : min b d = b := by omega
      (repeat (first
    | refine RX_seq ?_
    | refine RX_block ?_
    | ((first | refine RX_reg ?_ | refine RX_cond' ?_ | refine RX_draw0 ?_ | refine RX_draw rfl ?_ | refine RX_skip ?_ | refine RX_gfrz ?_ | refine RX_exit ?_ | refine RX_ret ?_); try (simp only [go_sem, Nat.max_zero, List.isEmpty_cons, Int.reduceToNat, Nat.reducePow, Int.reduceEq, Int.reduceNe, Int.reduceLT, Int.reduceLE, Nat.reduceAdd, Nat.reduceLeDiff, ↓reduceIte, Nat.reduceLT, Nat.reduceMul, Nat.reduceSub, reduceCtorEq, frzLoc, rowCells, vAppM, beq_iff_eq, bne_iff_ne, bne_self_eq_false, beq_self_eq_true, beq_true, beq_false, I, B, w, vf295_res, vf295_keep, e131, cmpI_self, or3_00, cmpI_pos, cmpI_neg, cmpI_le, gt_iff_lt, h1, h2, m1, m2]))))
  · have m1 : max a c = a := by omega
    by_cases h2 : d < b
    · have m2 : min b d = d := by omega
      (repeat (first
    | refine RX_seq ?_
    | refine RX_block ?_
    | ((first | refine RX_reg ?_ | refine RX_cond' ?_ | refine RX_draw0 ?_ | refine RX_draw rfl ?_ | refine RX_skip ?_ | refine RX_gfrz ?_ | refine RX_exit ?_ | refine RX_ret ?_); try (simp only [go_sem, Nat.max_zero, List.isEmpty_cons, Int.reduceToNat, Nat.reducePow, Int.reduceEq, Int.reduceNe, Int.reduceLT, Int.reduceLE, Nat.reduceAdd, Nat.reduceLeDiff, ↓reduceIte, Nat.reduceLT, Nat.reduceMul, Nat.reduceSub, reduceCtorEq, frzLoc, rowCells, vAppM, beq_iff_eq, bne_iff_ne, bne_self_eq_false, beq_self_eq_true, beq_true, beq_false, I, B, w, vf295_res, vf295_keep, e131, cmpI_self, or3_00, cmpI_pos, cmpI_neg, cmpI_le, gt_iff_lt, h1, h2, m1, m2]))))
    · have m2 : min b d = b := by omega
      (repeat (first
    | refine RX_seq ?_
    | refine RX_block ?_
    | ((first | refine RX_reg ?_ | refine RX_cond' ?_ | refine RX_draw0 ?_ | refine RX_draw rfl ?_ | refine RX_skip ?_ | refine RX_gfrz ?_ | refine RX_exit ?_ | refine RX_ret ?_); try (simp only [go_sem, Nat.max_zero, List.isEmpty_cons, Int.reduceToNat, Nat.reducePow, Int.reduceEq, Int.reduceNe, Int.reduceLT, Int.reduceLE, Nat.reduceAdd, Nat.reduceLeDiff, ↓reduceIte, Nat.reduceLT, Nat.reduceMul, Nat.reduceSub, reduceCtorEq, frzLoc, rowCells, vAppM, beq_iff_eq, bne_iff_ne, bne_self_eq_false, beq_self_eq_true, beq_true, beq_false, I, B, w, vf295_res, vf295_keep, e131, cmpI_self, or3_00, cmpI_pos, cmpI_neg, cmpI_le, gt_iff_lt, h1, h2, m1, m2]))))
theorem e126l (f h a b f' h' c d : Int) (hf : f < f') : CV VP 295 [.agg [.d (I f), .d (U h), .d (U a), .d (I f), .d (U h), .d (U b)], .agg [.d (I f'), .d (U h'), .d (U c), .d (I f'), .d (U h'), .d (U d)]] [] = some ⟨.tup [.agg [.d (I f'), .d (U h'), .d (U c), .d (I f), .d (U h), .d (U b)], .d (B false)], [], [], 0⟩ := by
  refine CV_run (vf := vf295) rfl rfl ?_
  rw [vf295_start]
  (repeat (first
    | refine RX_seq ?_
    | refine RX_block ?_
    | ((first | refine RX_reg ?_ | refine RX_cond' ?_ | refine RX_draw0 ?_ | refine RX_draw rfl ?_ | refine RX_skip ?_ | refine RX_gfrz ?_ | refine RX_exit ?_ | refine RX_ret ?_); try (simp only [go_sem, Nat.max_zero, List.isEmpty_cons, Int.reduceToNat, Nat.reducePow, Int.reduceEq, Int.reduceNe, Int.reduceLT, Int.reduceLE, Nat.reduceAdd, Nat.reduceLeDiff, ↓reduceIte, Nat.reduceLT, Nat.reduceMul, Nat.reduceSub, reduceCtorEq, frzLoc, rowCells, vAppM, beq_iff_eq, bne_iff_ne, bne_self_eq_false, beq_self_eq_true, beq_true, beq_false, I, B, w, vf295_res, vf295_keep, e131, or3_lt hf, or3_gt hf, gt_iff_lt]))))
theorem e126g (f h a b f' h' c d : Int) (hf : f' < f) : CV VP 295 [.agg [.d (I f), .d (U h), .d (U a), .d (I f), .d (U h), .d (U b)], .agg [.d (I f'), .d (U h'), .d (U c), .d (I f'), .d (U h'), .d (U d)]] [] = some ⟨.tup [.agg [.d (I f), .d (U h), .d (U a), .d (I f'), .d (U h'), .d (U d)], .d (B false)], [], [], 0⟩ := by
  refine CV_run (vf := vf295) rfl rfl ?_
  rw [vf295_start]
  (repeat (first
    | refine RX_seq ?_
    | refine RX_block ?_
    | ((first | refine RX_reg ?_ | refine RX_cond' ?_ | refine RX_draw0 ?_ | refine RX_draw rfl ?_ | refine RX_skip ?_ | refine RX_gfrz ?_ | refine RX_exit ?_ | refine RX_ret ?_); try (simp only [go_sem, Nat.max_zero, List.isEmpty_cons, Int.reduceToNat, Nat.reducePow, Int.reduceEq, Int.reduceNe, Int.reduceLT, Int.reduceLE, Nat.reduceAdd, Nat.reduceLeDiff, ↓reduceIte, Nat.reduceLT, Nat.reduceMul, Nat.reduceSub, reduceCtorEq, frzLoc, rowCells, vAppM, beq_iff_eq, bne_iff_ne, bne_self_eq_false, beq_self_eq_true, beq_true, beq_false, I, B, w, vf295_res, vf295_keep, e131, or3_lt hf, or3_gt hf, gt_iff_lt]))))
theorem e112 (f h a0 a1 a2 a3 a4 b0 b1 b2 b3 b4 c0 c1 c2 c3 c4 d0 d1 d2 d3 d4 : Int) : CV VP 258 [.agg [.d (I f), .d (U h), .d (U a0), .d (I f), .d (U h), .d (U b0), .d (I f), .d (U h), .d (U a1), .d (I f), .d (U h), .d (U b1), .d (I 0), .d (U 0), .d (U a2), .d (I 0), .d (U 0), .d (U b2), .d (I 0), .d (U 0), .d (U a3), .d (I 0), .d (U 0), .d (U b3), .d (I 0), .d (U 0), .d (U a4), .d (I 0), .d (U 0), .d (U b4)], .agg [.d (I f), .d (U h), .d (U c0), .d (I f), .d (U h), .d (U d0), .d (I f), .d (U h), .d (U c1), .d (I f), .d (U h), .d (U d1), .d (I 0), .d (U 0), .d (U c2), .d (I 0), .d (U 0), .d (U d2), .d (I 0), .d (U 0), .d (U c3), .d (I 0), .d (U 0), .d (U d3), .d (I 0), .d (U 0), .d (U c4), .d (I 0), .d (U 0), .d (U d4)]] [] = some (if max a0 c0 ≤ min b0 d0 ∧ max a1 c1 ≤ min b1 d1 ∧ max a2 c2 ≤ min b2 d2 ∧ max a3 c3 ≤ min b3 d3 ∧ max a4 c4 ≤ min b4 d4 then ⟨.tup [.agg [.d (I f), .d (U h), .d (U (max a0 c0)), .d (I f), .d (U h), .d (U (min b0 d0)), .d (I f), .d (U h), .d (U (max a1 c1)), .d (I f), .d (U h), .d (U (min b1 d1)), .d (I 0), .d (U 0), .d (U (max a2 c2)), .d (I 0), .d (U 0), .d (U (min b2 d2)), .d (I 0), .d (U 0), .d (U (max a3 c3)), .d (I 0), .d (U 0), .d (U (min b3 d3)), .d (I 0), .d (U 0), .d (U (max a4 c4)), .d (I 0), .d (U 0), .d (U (min b4 d4))], .d (B true)], [], [], 0⟩ else ⟨.tup [.agg [.d (I 0), .d (U 0), .d (U 0), .d (I 0), .d (U 0), .d (U 0), .d (I 0), .d (U 0), .d (U 0), .d (I 0), .d (U 0), .d (U 0), .d (I 0), .d (U 0), .d (U 0), .d (I 0), .d (U 0), .d (U 0), .d (I 0), .d (U 0), .d (U 0), .d (I 0), .d (U 0), .d (U 0), .d (I 0), .d (U 0), .d (U 0), .d (I 0), .d (U 0), .d (U 0)], .d (B false)], [], [], 0⟩) := by
  have w1 : IntKind.i64.wrap (0 + 1) = 1 := rfl
  have w2 : IntKind.i64.wrap (1 + 1) = 2 := rfl
  have w3 : IntKind.i64.wrap (2 + 1) = 3 := rfl
  have w4 : IntKind.i64.wrap (3 + 1) = 4 := rfl
  have w5 : IntKind.i64.wrap (4 + 1) = 5 := rfl
  by_cases h0 : max a0 c0 ≤ min b0 d0
  · by_cases h1 : max a1 c1 ≤ min b1 d1
    · by_cases h2 : max a2 c2 ≤ min b2 d2
      · by_cases h3 : max a3 c3 ≤ min b3 d3
        · by_cases h4 : max a4 c4 ≤ min b4 d4
          · rw [if_pos ⟨h0, h1, h2, h3, h4⟩]
            refine CV_run (vf := vf258) rfl rfl ?_
            rw [vf258_start]
            (repeat (first
    | refine RX_seq ?_
    | refine RX_block ?_
    | ((first | refine RX_reg ?_ | refine RX_cond' ?_ | refine RX_draw0 ?_ | refine RX_draw rfl ?_ | refine RX_skip ?_ | refine RX_gfrz ?_ | refine RX_exit ?_ | refine RX_ret ?_); try (simp only [go_sem, Nat.max_zero, List.isEmpty_cons, Int.reduceToNat, Nat.reducePow, Int.reduceEq, Int.reduceNe, Int.reduceLT, Int.reduceLE, Nat.reduceAdd, Nat.reduceLeDiff, ↓reduceIte, Nat.reduceLT, Nat.reduceMul, Nat.reduceSub, reduceCtorEq, frzLoc, rowCells, vAppM, beq_iff_eq, bne_iff_ne, bne_self_eq_false, beq_self_eq_true, beq_true, beq_false, I, B, w, vf258_res, vf258_keep, e126]))))
            refine RX_loop ?_
            (refine RL_head ?_; (simp only [go_sem, Nat.max_zero, List.isEmpty_cons, Int.reduceToNat, Nat.reducePow, Int.reduceEq, Int.reduceNe, Int.reduceLT, Int.reduceLE, Nat.reduceAdd, Nat.reduceLeDiff, ↓reduceIte, Nat.reduceLT, Nat.reduceMul, Nat.reduceSub, reduceCtorEq, frzLoc, rowCells, vAppM, beq_iff_eq, bne_iff_ne, bne_self_eq_false, beq_self_eq_true, beq_true, beq_false, I, B, w, St.head, forget, vf258K0, RLK_some, vf258_res, vf258_keep, e126, h0, h1, h2, h3, h4, w1]); refine vf258L0_go ?_; ((repeat (first
    | refine RX_seq ?_
    | refine RX_block ?_
    | ((first | refine RX_reg ?_ | refine RX_cond' ?_ | refine RX_draw0 ?_ | refine RX_draw rfl ?_ | refine RX_skip ?_ | refine RX_gfrz ?_ | refine RX_exit ?_ | refine RX_ret ?_); try (simp only [go_sem, Nat.max_zero, List.isEmpty_cons, Int.reduceToNat, Nat.reducePow, Int.reduceEq, Int.reduceNe, Int.reduceLT, Int.reduceLE, Nat.reduceAdd, Nat.reduceLeDiff, ↓reduceIte, Nat.reduceLT, Nat.reduceMul, Nat.reduceSub, reduceCtorEq, frzLoc, rowCells, vAppM, beq_iff_eq, bne_iff_ne, bne_self_eq_false, beq_self_eq_true, beq_true, beq_false, I, B, w, vf258_res, vf258_keep, e126, h0, h1, h2, h3, h4, w1]))))))
            (refine RL_head ?_; (simp only [go_sem, Nat.max_zero, List.isEmpty_cons, Int.reduceToNat, Nat.reducePow, Int.reduceEq, Int.reduceNe, Int.reduceLT, Int.reduceLE, Nat.reduceAdd, Nat.reduceLeDiff, ↓reduceIte, Nat.reduceLT, Nat.reduceMul, Nat.reduceSub, reduceCtorEq, frzLoc, rowCells, vAppM, beq_iff_eq, bne_iff_ne, bne_self_eq_false, beq_self_eq_true, beq_true, beq_false, I, B, w, St.head, forget, vf258K0, RLK_some, vf258_res, vf258_keep, e126, h0, h1, h2, h3, h4, w2]); refine vf258L0_go ?_; ((repeat (first
    | refine RX_seq ?_
    | refine RX_block ?_
    | ((first | refine RX_reg ?_ | refine RX_cond' ?_ | refine RX_draw0 ?_ | refine RX_draw rfl ?_ | refine RX_skip ?_ | refine RX_gfrz ?_ | refine RX_exit ?_ | refine RX_ret ?_); try (simp only [go_sem, Nat.max_zero, List.isEmpty_cons, Int.reduceToNat, Nat.reducePow, Int.reduceEq, Int.reduceNe, Int.reduceLT, Int.reduceLE, Nat.reduceAdd, Nat.reduceLeDiff, ↓reduceIte, Nat.reduceLT, Nat.reduceMul, Nat.reduceSub, reduceCtorEq, frzLoc, rowCells, vAppM, beq_iff_eq, bne_iff_ne, bne_self_eq_false, beq_self_eq_true, beq_true, beq_false, I, B, w, vf258_res, vf258_keep, e126, h0, h1, h2, h3, h4, w2]))))))
            (refine RL_head ?_; (simp only [go_sem, Nat.max_zero, List.isEmpty_cons, Int.reduceToNat, Nat.reducePow, Int.reduceEq, Int.reduceNe, Int.reduceLT, Int.reduceLE, Nat.reduceAdd, Nat.reduceLeDiff, ↓reduceIte, Nat.reduceLT, Nat.reduceMul, Nat.reduceSub, reduceCtorEq, frzLoc, rowCells, vAppM, beq_iff_eq, bne_iff_ne, bne_self_eq_false, beq_self_eq_true, beq_true, beq_false, I, B, w, St.head, forget, vf258K0, RLK_some, vf258_res, vf258_keep, e126, h0, h1, h2, h3, h4, w3]); refine vf258L0_go ?_; ((repeat (first
    | refine RX_seq ?_
    | refine RX_block ?_
    | ((first | refine RX_reg ?_ | refine RX_cond' ?_ | refine RX_draw0 ?_ | refine RX_draw rfl ?_ | refine RX_skip ?_ | refine RX_gfrz ?_ | refine RX_exit ?_ | refine RX_ret ?_); try (simp only [go_sem, Nat.max_zero, List.isEmpty_cons, Int.reduceToNat, Nat.reducePow, Int.reduceEq, Int.reduceNe, Int.reduceLT, Int.reduceLE, Nat.reduceAdd, Nat.reduceLeDiff, ↓reduceIte, Nat.reduceLT, Nat.reduceMul, Nat.reduceSub, reduceCtorEq, frzLoc, rowCells, vAppM, beq_iff_eq, bne_iff_ne, bne_self_eq_false, beq_self_eq_true, beq_true, beq_false, I, B, w, vf258_res, vf258_keep, e126, h0, h1, h2, h3, h4, w3]))))))
            (refine RL_head ?_; (simp only [go_sem, Nat.max_zero, List.isEmpty_cons, Int.reduceToNat, Nat.reducePow, Int.reduceEq, Int.reduceNe, Int.reduceLT, Int.reduceLE, Nat.reduceAdd, Nat.reduceLeDiff, ↓reduceIte, Nat.reduceLT, Nat.reduceMul, Nat.reduceSub, reduceCtorEq, frzLoc, rowCells, vAppM, beq_iff_eq, bne_iff_ne, bne_self_eq_false, beq_self_eq_true, beq_true, beq_false, I, B, w, St.head, forget, vf258K0, RLK_some, vf258_res, vf258_keep, e126, h0, h1, h2, h3, h4, w4]); refine vf258L0_go ?_; ((repeat (first
    | refine RX_seq ?_
    | refine RX_block ?_
    | ((first | refine RX_reg ?_ | refine RX_cond' ?_ | refine RX_draw0 ?_ | refine RX_draw rfl ?_ | refine RX_skip ?_ | refine RX_gfrz ?_ | refine RX_exit ?_ | refine RX_ret ?_); try (simp only [go_sem, Nat.max_zero, List.isEmpty_cons, Int.reduceToNat, Nat.reducePow, Int.reduceEq, Int.reduceNe, Int.reduceLT, Int.reduceLE, Nat.reduceAdd, Nat.reduceLeDiff, ↓reduceIte, Nat.reduceLT, Nat.reduceMul, Nat.reduceSub, reduceCtorEq, frzLoc, rowCells, vAppM, beq_iff_eq, bne_iff_ne, bne_self_eq_false, beq_self_eq_true, beq_true, beq_false, I, B, w, vf258_res, vf258_keep, e126, h0, h1, h2, h3, h4, w4]))))))
            (refine RL_head ?_; (simp only [go_sem, Nat.max_zero, List.isEmpty_cons, Int.reduceToNat, Nat.reducePow, Int.reduceEq, Int.reduceNe, Int.reduceLT, Int.reduceLE, Nat.reduceAdd, Nat.reduceLeDiff, ↓reduceIte, Nat.reduceLT, Nat.reduceMul, Nat.reduceSub, reduceCtorEq, frzLoc, rowCells, vAppM, beq_iff_eq, bne_iff_ne, bne_self_eq_false, beq_self_eq_true, beq_true, beq_false, I, B, w, St.head, forget, vf258K0, RLK_some, vf258_res, vf258_keep, e126, h0, h1, h2, h3, h4, w5]); refine vf258L0_go ?_; ((repeat (first
    | refine RX_seq ?_
    | refine RX_block ?_
    | ((first | refine RX_reg ?_ | refine RX_cond' ?_ | refine RX_draw0 ?_ | refine RX_draw rfl ?_ | refine RX_skip ?_ | refine RX_gfrz ?_ | refine RX_exit ?_ | refine RX_ret ?_); try (simp only [go_sem, Nat.max_zero, List.isEmpty_cons, Int.reduceToNat, Nat.reducePow, Int.reduceEq, Int.reduceNe, Int.reduceLT, Int.reduceLE, Nat.reduceAdd, Nat.reduceLeDiff, ↓reduceIte, Nat.reduceLT, Nat.reduceMul, Nat.reduceSub, reduceCtorEq, frzLoc, rowCells, vAppM, beq_iff_eq, bne_iff_ne, bne_self_eq_false, beq_self_eq_true, beq_true, beq_false, I, B, w, vf258_res, vf258_keep, e126, h0, h1, h2, h3, h4, w5]))))))
            (refine RL_head ?_; (simp only [go_sem, Nat.max_zero, List.isEmpty_cons, Int.reduceToNat, Nat.reducePow, Int.reduceEq, Int.reduceNe, Int.reduceLT, Int.reduceLE, Nat.reduceAdd, Nat.reduceLeDiff, ↓reduceIte, Nat.reduceLT, Nat.reduceMul, Nat.reduceSub, reduceCtorEq, frzLoc, rowCells, vAppM, beq_iff_eq, bne_iff_ne, bne_self_eq_false, beq_self_eq_true, beq_true, beq_false, I, B, w, St.head, forget, vf258K0, RLK_some, vf258_res, vf258_keep, e126, h0, h1, h2, h3, h4]); refine vf258L0_go ?_; ((repeat (first
    | refine RX_seq ?_
    | refine RX_block ?_
    | ((first | refine RX_reg ?_ | refine RX_cond' ?_ | refine RX_draw0 ?_ | refine RX_draw rfl ?_ | refine RX_skip ?_ | refine RX_gfrz ?_ | refine RX_exit ?_ | refine RX_ret ?_); try (simp only [go_sem, Nat.max_zero, List.isEmpty_cons, Int.reduceToNat, Nat.reducePow, Int.reduceEq, Int.reduceNe, Int.reduceLT, Int.reduceLE, Nat.reduceAdd, Nat.reduceLeDiff, ↓reduceIte, Nat.reduceLT, Nat.reduceMul, Nat.reduceSub, reduceCtorEq, frzLoc, rowCells, vAppM, beq_iff_eq, bne_iff_ne, bne_self_eq_false, beq_self_eq_true, beq_true, beq_false, I, B, w, vf258_res, vf258_keep, e126, h0, h1, h2, h3, h4]))))))
          · rw [if_neg (fun hh => h4 hh.2.2.2.2)]
            refine CV_run (vf := vf258) rfl rfl ?_
            rw [vf258_start]
            (repeat (first
    | refine RX_seq ?_
    | refine RX_block ?_
    | ((first | refine RX_reg ?_ | refine RX_cond' ?_ | refine RX_draw0 ?_ | refine RX_draw rfl ?_ | refine RX_skip ?_ | refine RX_gfrz ?_ | refine RX_exit ?_ | refine RX_ret ?_); try (simp only [go_sem, Nat.max_zero, List.isEmpty_cons, Int.reduceToNat, Nat.reducePow, Int.reduceEq, Int.reduceNe, Int.reduceLT, Int.reduceLE, Nat.reduceAdd, Nat.reduceLeDiff, ↓reduceIte, Nat.reduceLT, Nat.reduceMul, Nat.reduceSub, reduceCtorEq, frzLoc, rowCells, vAppM, beq_iff_eq, bne_iff_ne, bne_self_eq_false, beq_self_eq_true, beq_true, beq_false, I, B, w, vf258_res, vf258_keep, e126]))))
            refine RX_loop ?_
            (refine RL_head ?_; (simp only [go_sem, Nat.max_zero, List.isEmpty_cons, Int.reduceToNat, Nat.reducePow, Int.reduceEq, Int.reduceNe, Int.reduceLT, Int.reduceLE, Nat.reduceAdd, Nat.reduceLeDiff, ↓reduceIte, Nat.reduceLT, Nat.reduceMul, Nat.reduceSub, reduceCtorEq, frzLoc, rowCells, vAppM, beq_iff_eq, bne_iff_ne, bne_self_eq_false, beq_self_eq_true, beq_true, beq_false, I, B, w, St.head, forget, vf258K0, RLK_some, vf258_res, vf258_keep, e126, h0, h1, h2, h3, h4, w1]); refine vf258L0_go ?_; ((repeat (first
    | refine RX_seq ?_
    | refine RX_block ?_
    | ((first | refine RX_reg ?_ | refine RX_cond' ?_ | refine RX_draw0 ?_ | refine RX_draw rfl ?_ | refine RX_skip ?_ | refine RX_gfrz ?_ | refine RX_exit ?_ | refine RX_ret ?_); try (simp only [go_sem, Nat.max_zero, List.isEmpty_cons, Int.reduceToNat, Nat.reducePow, Int.reduceEq, Int.reduceNe, Int.reduceLT, Int.reduceLE, Nat.reduceAdd, Nat.reduceLeDiff, ↓reduceIte, Nat.reduceLT, Nat.reduceMul, Nat.reduceSub, reduceCtorEq, frzLoc, rowCells, vAppM, beq_iff_eq, bne_iff_ne, bne_self_eq_false, beq_self_eq_true, beq_true, beq_false, I, B, w, vf258_res, vf258_keep, e126, h0, h1, h2, h3, h4, w1]))))))
            (refine RL_head ?_; (simp only [go_sem, Nat.max_zero, List.isEmpty_cons, Int.reduceToNat, Nat.reducePow, Int.reduceEq, Int.reduceNe, Int.reduceLT, Int.reduceLE, Nat.reduceAdd, Nat.reduceLeDiff, ↓reduceIte, Nat.reduceLT, Nat.reduceMul, Nat.reduceSub, reduceCtorEq, frzLoc, rowCells, vAppM, beq_iff_eq, bne_iff_ne, bne_self_eq_false, beq_self_eq_true, beq_true, beq_false, I, B, w, St.head, forget, vf258K0, RLK_some, vf258_res, vf258_keep, e126, h0, h1, h2, h3, h4, w2]); refine vf258L0_go ?_; ((repeat (first
    | refine RX_seq ?_
    | refine RX_block ?_
    | ((first | refine RX_reg ?_ | refine RX_cond' ?_ | refine RX_draw0 ?_ | refine RX_draw rfl ?_ | refine RX_skip ?_ | refine RX_gfrz ?_ | refine RX_exit ?_ | refine RX_ret ?_); try (simp only [go_sem, Nat.max_zero, List.isEmpty_cons, Int.reduceToNat, Nat.reducePow, Int.reduceEq, Int.reduceNe, Int.reduceLT, Int.reduceLE, Nat.reduceAdd, Nat.reduceLeDiff, ↓reduceIte, Nat.reduceLT, Nat.reduceMul, Nat.reduceSub, reduceCtorEq, frzLoc, rowCells, vAppM, beq_iff_eq, bne_iff_ne, bne_self_eq_false, beq_self_eq_true, beq_true, beq_false, I, B, w, vf258_res, vf258_keep, e126, h0, h1, h2, h3, h4, w2]))))))
            (refine RL_head ?_; (simp only [go_sem, Nat.max_zero, List.isEmpty_cons, Int.reduceToNat, Nat.reducePow, Int.reduceEq, Int.reduceNe, Int.reduceLT, Int.reduceLE, Nat.reduceAdd, Nat.reduceLeDiff, ↓reduceIte, Nat.reduceLT, Nat.reduceMul, Nat.reduceSub, reduceCtorEq, frzLoc, rowCells, vAppM, beq_iff_eq, bne_iff_ne, bne_self_eq_false, beq_self_eq_true, beq_true, beq_false, I, B, w, St.head, forget, vf258K0, RLK_some, vf258_res, vf258_keep, e126, h0, h1, h2, h3, h4, w3]); refine vf258L0_go ?_; ((repeat (first
    | refine RX_seq ?_
    | refine RX_block ?_
    | ((first | refine RX_reg ?_ | refine RX_cond' ?_ | refine RX_draw0 ?_ | refine RX_draw rfl ?_ | refine RX_skip ?_ | refine RX_gfrz ?_ | refine RX_exit ?_ | refine RX_ret ?_); try (simp only [go_sem, Nat.max_zero, List.isEmpty_cons, Int.reduceToNat, Nat.reducePow, Int.reduceEq, Int.reduceNe, Int.reduceLT, Int.reduceLE, Nat.reduceAdd, Nat.reduceLeDiff, ↓reduceIte, Nat.reduceLT, Nat.reduceMul, Nat.reduceSub, reduceCtorEq, frzLoc, rowCells, vAppM, beq_iff_eq, bne_iff_ne, bne_self_eq_false, beq_self_eq_true, beq_true, beq_false, I, B, w, vf258_res, vf258_keep, e126, h0, h1, h2, h3, h4, w3]))))))
            (refine RL_head ?_; (simp only [go_sem, Nat.max_zero, List.isEmpty_cons, Int.reduceToNat, Nat.reducePow, Int.reduceEq, Int.reduceNe, Int.reduceLT, Int.reduceLE, Nat.reduceAdd, Nat.reduceLeDiff, ↓reduceIte, Nat.reduceLT, Nat.reduceMul, Nat.reduceSub, reduceCtorEq, frzLoc, rowCells, vAppM, beq_iff_eq, bne_iff_ne, bne_self_eq_false, beq_self_eq_true, beq_true, beq_false, I, B, w, St.head, forget, vf258K0, RLK_some, vf258_res, vf258_keep, e126, h0, h1, h2, h3, h4, w4]); refine vf258L0_go ?_; ((repeat (first
    | refine RX_seq ?_
    | refine RX_block ?_
    | ((first | refine RX_reg ?_ | refine RX_cond' ?_ | refine RX_draw0 ?_ | refine RX_draw rfl ?_ | refine RX_skip ?_ | refine RX_gfrz ?_ | refine RX_exit ?_ | refine RX_ret ?_); try (simp only [go_sem, Nat.max_zero, List.isEmpty_cons, Int.reduceToNat, Nat.reducePow, Int.reduceEq, Int.reduceNe, Int.reduceLT, Int.reduceLE, Nat.reduceAdd, Nat.reduceLeDiff, ↓reduceIte, Nat.reduceLT, Nat.reduceMul, Nat.reduceSub, reduceCtorEq, frzLoc, rowCells, vAppM, beq_iff_eq, bne_iff_ne, bne_self_eq_false, beq_self_eq_true, beq_true, beq_false, I, B, w, vf258_res, vf258_keep, e126, h0, h1, h2, h3, h4, w4]))))))
            (refine RL_head ?_; (simp only [go_sem, Nat.max_zero, List.isEmpty_cons, Int.reduceToNat, Nat.reducePow, Int.reduceEq, Int.reduceNe, Int.reduceLT, Int.reduceLE, Nat.reduceAdd, Nat.reduceLeDiff, ↓reduceIte, Nat.reduceLT, Nat.reduceMul, Nat.reduceSub, reduceCtorEq, frzLoc, rowCells, vAppM, beq_iff_eq, bne_iff_ne, bne_self_eq_false, beq_self_eq_true, beq_true, beq_false, I, B, w, St.head, forget, vf258K0, RLK_some, vf258_res, vf258_keep, e126, h0, h1, h2, h3, h4, w5]); refine vf258L0_go ?_; ((repeat (first
    | refine RX_seq ?_
    | refine RX_block ?_
    | ((first | refine RX_reg ?_ | refine RX_cond' ?_ | refine RX_draw0 ?_ | refine RX_draw rfl ?_ | refine RX_skip ?_ | refine RX_gfrz ?_ | refine RX_exit ?_ | refine RX_ret ?_); try (simp only [go_sem, Nat.max_zero, List.isEmpty_cons, Int.reduceToNat, Nat.reducePow, Int.reduceEq, Int.reduceNe, Int.reduceLT, Int.reduceLE, Nat.reduceAdd, Nat.reduceLeDiff, ↓reduceIte, Nat.reduceLT, Nat.reduceMul, Nat.reduceSub, reduceCtorEq, frzLoc, rowCells, vAppM, beq_iff_eq, bne_iff_ne, bne_self_eq_false, beq_self_eq_true, beq_true, beq_false, I, B, w, vf258_res, vf258_keep, e126, h0, h1, h2, h3, h4, w5]))))))
        · rw [if_neg (fun hh => h3 hh.2.2.2.1)]
          refine CV_run (vf := vf258) rfl rfl ?_
          rw [vf258_start]
          (repeat (first
    | refine RX_seq ?_
    | refine RX_block ?_
    | ((first | refine RX_reg ?_ | refine RX_cond' ?_ | refine RX_draw0 ?_ | refine RX_draw rfl ?_ | refine RX_skip ?_ | refine RX_gfrz ?_ | refine RX_exit ?_ | refine RX_ret ?_); try (simp only [go_sem, Nat.max_zero, List.isEmpty_cons, Int.reduceToNat, Nat.reducePow, Int.reduceEq, Int.reduceNe, Int.reduceLT, Int.reduceLE, Nat.reduceAdd, Nat.reduceLeDiff, ↓reduceIte, Nat.reduceLT, Nat.reduceMul, Nat.reduceSub, reduceCtorEq, frzLoc, rowCells, vAppM, beq_iff_eq, bne_iff_ne, bne_self_eq_false, beq_self_eq_true, beq_true, beq_false, I, B, w, vf258_res, vf258_keep, e126]))))
          refine RX_loop ?_
          (refine RL_head ?_; (simp only [go_sem, Nat.max_zero, List.isEmpty_cons, Int.reduceToNat, Nat.reducePow, Int.reduceEq, Int.reduceNe, Int.reduceLT, Int.reduceLE, Nat.reduceAdd, Nat.reduceLeDiff, ↓reduceIte, Nat.reduceLT, Nat.reduceMul, Nat.reduceSub, reduceCtorEq, frzLoc, rowCells, vAppM, beq_iff_eq, bne_iff_ne, bne_self_eq_false, beq_self_eq_true, beq_true, beq_false, I, B, w, St.head, forget, vf258K0, RLK_some, vf258_res, vf258_keep, e126, h0, h1, h2, h3, w1]); refine vf258L0_go ?_; ((repeat (first
    | refine RX_seq ?_
    | refine RX_block ?_
    | ((first | refine RX_reg ?_ | refine RX_cond' ?_ | refine RX_draw0 ?_ | refine RX_draw rfl ?_ | refine RX_skip ?_ | refine RX_gfrz ?_ | refine RX_exit ?_ | refine RX_ret ?_); try (simp only [go_sem, Nat.max_zero, List.isEmpty_cons, Int.reduceToNat, Nat.reducePow, Int.reduceEq, Int.reduceNe, Int.reduceLT, Int.reduceLE, Nat.reduceAdd, Nat.reduceLeDiff, ↓reduceIte, Nat.reduceLT, Nat.reduceMul, Nat.reduceSub, reduceCtorEq, frzLoc, rowCells, vAppM, beq_iff_eq, bne_iff_ne, bne_self_eq_false, beq_self_eq_true, beq_true, beq_false, I, B, w, vf258_res, vf258_keep, e126, h0, h1, h2, h3, w1]))))))
          (refine RL_head ?_; (simp only [go_sem, Nat.max_zero, List.isEmpty_cons, Int.reduceToNat, Nat.reducePow, Int.reduceEq, Int.reduceNe, Int.reduceLT, Int.reduceLE, Nat.reduceAdd, Nat.reduceLeDiff, ↓reduceIte, Nat.reduceLT, Nat.reduceMul, Nat.reduceSub, reduceCtorEq, frzLoc, rowCells, vAppM, beq_iff_eq, bne_iff_ne, bne_self_eq_false, beq_self_eq_true, beq_true, beq_false, I, B, w, St.head, forget, vf258K0, RLK_some, vf258_res, vf258_keep, e126, h0, h1, h2, h3, w2]); refine vf258L0_go ?_; ((repeat (first
    | refine RX_seq ?_
    | refine RX_block ?_
    | ((first | refine RX_reg ?_ | refine RX_cond' ?_ | refine RX_draw0 ?_ | refine RX_draw rfl ?_ | refine RX_skip ?_ | refine RX_gfrz ?_ | refine RX_exit ?_ | refine RX_ret ?_); try (simp only [go_sem, Nat.max_zero, List.isEmpty_cons, Int.reduceToNat, Nat.reducePow, Int.reduceEq, Int.reduceNe, Int.reduceLT, Int.reduceLE, Nat.reduceAdd, Nat.reduceLeDiff, ↓reduceIte, Nat.reduceLT, Nat.reduceMul, Nat.reduceSub, reduceCtorEq, frzLoc, rowCells, vAppM, beq_iff_eq, bne_iff_ne, bne_self_eq_false, beq_self_eq_true, beq_true, beq_false, I, B, w, vf258_res, vf258_keep, e126, h0, h1, h2, h3, w2]))))))
          (refine RL_head ?_; (simp only [go_sem, Nat.max_zero, List.isEmpty_cons, Int.reduceToNat, Nat.reducePow, Int.reduceEq, Int.reduceNe, Int.reduceLT, Int.reduceLE, Nat.reduceAdd, Nat.reduceLeDiff, ↓reduceIte, Nat.reduceLT, Nat.reduceMul, Nat.reduceSub, reduceCtorEq, frzLoc, rowCells, vAppM, beq_iff_eq, bne_iff_ne, bne_self_eq_false, beq_self_eq_true, beq_true, beq_false, I, B, w, St.head, forget, vf258K0, RLK_some, vf258_res, vf258_keep, e126, h0, h1, h2, h3, w3]); refine vf258L0_go ?_; ((repeat (first
    | refine RX_seq ?_
    | refine RX_block ?_
    | ((first | refine RX_reg ?_ | refine RX_cond' ?_ | refine RX_draw0 ?_ | refine RX_draw rfl ?_ | refine RX_skip ?_ | refine RX_gfrz ?_ | refine RX_exit ?_ | refine RX_ret ?_); try (simp only [go_sem, Nat.max_zero, List.isEmpty_cons, Int.reduceToNat, Nat.reducePow, Int.reduceEq, Int.reduceNe, Int.reduceLT, Int.reduceLE, Nat.reduceAdd, Nat.reduceLeDiff, ↓reduceIte, Nat.reduceLT, Nat.reduceMul, Nat.reduceSub, reduceCtorEq, frzLoc, rowCells, vAppM, beq_iff_eq, bne_iff_ne, bne_self_eq_false, beq_self_eq_true, beq_true, beq_false, I, B, w, vf258_res, vf258_keep, e126, h0, h1, h2, h3, w3]))))))
          (refine RL_head ?_; (simp only [go_sem, Nat.max_zero, List.isEmpty_cons, Int.reduceToNat, Nat.reducePow, Int.reduceEq, Int.reduceNe, Int.reduceLT, Int.reduceLE, Nat.reduceAdd, Nat.reduceLeDiff, ↓reduceIte, Nat.reduceLT, Nat.reduceMul, Nat.reduceSub, reduceCtorEq, frzLoc, rowCells, vAppM, beq_iff_eq, bne_iff_ne, bne_self_eq_false, beq_self_eq_true, beq_true, beq_false, I, B, w, St.head, forget, vf258K0, RLK_some, vf258_res, vf258_keep, e126, h0, h1, h2, h3, w4]); refine vf258L0_go ?_; ((repeat (first
    | refine RX_seq ?_
    | refine RX_block ?_
    | ((first | refine RX_reg ?_ | refine RX_cond' ?_ | refine RX_draw0 ?_ | refine RX_draw rfl ?_ | refine RX_skip ?_ | refine RX_gfrz ?_ | refine RX_exit ?_ | refine RX_ret ?_); try (simp only [go_sem, Nat.max_zero, List.isEmpty_cons, Int.reduceToNat, Nat.reducePow, Int.reduceEq, Int.reduceNe, Int.reduceLT, Int.reduceLE, Nat.reduceAdd, Nat.reduceLeDiff, ↓reduceIte, Nat.reduceLT, Nat.reduceMul, Nat.reduceSub, reduceCtorEq, frzLoc, rowCells, vAppM, beq_iff_eq, bne_iff_ne, bne_self_eq_false, beq_self_eq_true, beq_true, beq_false, I, B, w, vf258_res, vf258_keep, e126, h0, h1, h2, h3, w4]))))))
      · rw [if_neg (fun hh => h2 hh.2.2.1)]
        refine CV_run (vf := vf258) rfl rfl ?_
        rw [vf258_start]
        (repeat (first
    | refine RX_seq ?_
    | refine RX_block ?_
    | ((first | refine RX_reg ?_ | refine RX_cond' ?_ | refine RX_draw0 ?_ | refine RX_draw rfl ?_ | refine RX_skip ?_ | refine RX_gfrz ?_ | refine RX_exit ?_ | refine RX_ret ?_); try (simp only [go_sem, Nat.max_zero, List.isEmpty_cons, Int.reduceToNat, Nat.reducePow, Int.reduceEq, Int.reduceNe, Int.reduceLT, Int.reduceLE, Nat.reduceAdd, Nat.reduceLeDiff, ↓reduceIte, Nat.reduceLT, Nat.reduceMul, Nat.reduceSub, reduceCtorEq, frzLoc, rowCells, vAppM, beq_iff_eq, bne_iff_ne, bne_self_eq_false, beq_self_eq_true, beq_true, beq_false, I, B, w, vf258_res, vf258_keep, e126]))))
        refine RX_loop ?_
        (refine RL_head ?_; (simp only [go_sem, Nat.max_zero, List.isEmpty_cons, Int.reduceToNat, Nat.reducePow, Int.reduceEq, Int.reduceNe, Int.reduceLT, Int.reduceLE, Nat.reduceAdd, Nat.reduceLeDiff, ↓reduceIte, Nat.reduceLT, Nat.reduceMul, Nat.reduceSub, reduceCtorEq, frzLoc, rowCells, vAppM, beq_iff_eq, bne_iff_ne, bne_self_eq_false, beq_self_eq_true, beq_true, beq_false, I, B, w, St.head, forget, vf258K0, RLK_some, vf258_res, vf258_keep, e126, h0, h1, h2, w1]); refine vf258L0_go ?_; ((repeat (first
    | refine RX_seq ?_
    | refine RX_block ?_
    | ((first | refine RX_reg ?_ | refine RX_cond' ?_ | refine RX_draw0 ?_ | refine RX_draw rfl ?_ | refine RX_skip ?_ | refine RX_gfrz ?_ | refine RX_exit ?_ | refine RX_ret ?_); try (simp only [go_sem, Nat.max_zero, List.isEmpty_cons, Int.reduceToNat, Nat.reducePow, Int.reduceEq, Int.reduceNe, Int.reduceLT, Int.reduceLE, Nat.reduceAdd, Nat.reduceLeDiff, ↓reduceIte, Nat.reduceLT, Nat.reduceMul, Nat.reduceSub, reduceCtorEq, frzLoc, rowCells, vAppM, beq_iff_eq, bne_iff_ne, bne_self_eq_false, beq_self_eq_true, beq_true, beq_false, I, B, w, vf258_res, vf258_keep, e126, h0, h1, h2, w1]))))))
        (refine RL_head ?_; (simp only [go_sem, Nat.max_zero, List.isEmpty_cons, Int.reduceToNat, Nat.reducePow, Int.reduceEq, Int.reduceNe, Int.reduceLT, Int.reduceLE, Nat.reduceAdd, Nat.reduceLeDiff, ↓reduceIte, Nat.reduceLT, Nat.reduceMul, Nat.reduceSub, reduceCtorEq, frzLoc, rowCells, vAppM, beq_iff_eq, bne_iff_ne, bne_self_eq_false, beq_self_eq_true, beq_true, beq_false, I, B, w, St.head, forget, vf258K0, RLK_some, vf258_res, vf258_keep, e126, h0, h1, h2, w2]); refine vf258L0_go ?_; ((repeat (first
    | refine RX_seq ?_
    | refine RX_block ?_
    | ((first | refine RX_reg ?_ | refine RX_cond' ?_ | refine RX_draw0 ?_ | refine RX_draw rfl ?_ | refine RX_skip ?_ | refine RX_gfrz ?_ | refine RX_exit ?_ | refine RX_ret ?_); try (simp only [go_sem, Nat.max_zero, List.isEmpty_cons, Int.reduceToNat, Nat.reducePow, Int.reduceEq, Int.reduceNe, Int.reduceLT, Int.reduceLE, Nat.reduceAdd, Nat.reduceLeDiff, ↓reduceIte, Nat.reduceLT, Nat.reduceMul, Nat.reduceSub, reduceCtorEq, frzLoc, rowCells, vAppM, beq_iff_eq, bne_iff_ne, bne_self_eq_false, beq_self_eq_true, beq_true, beq_false, I, B, w, vf258_res, vf258_keep, e126, h0, h1, h2, w2]))))))
        (refine RL_head ?_; (simp only [go_sem, Nat.max_zero, List.isEmpty_cons, Int.reduceToNat, Nat.reducePow, Int.reduceEq, Int.reduceNe, Int.reduceLT, Int.reduceLE, Nat.reduceAdd, Nat.reduceLeDiff, ↓reduceIte, Nat.reduceLT, Nat.reduceMul, Nat.reduceSub, reduceCtorEq, frzLoc, rowCells, vAppM, beq_iff_eq, bne_iff_ne, bne_self_eq_false, beq_self_eq_true, beq_true, beq_false, I, B, w, St.head, forget, vf258K0, RLK_some, vf258_res, vf258_keep, e126, h0, h1, h2, w3]); refine vf258L0_go ?_; ((repeat (first
    | refine RX_seq ?_
    | refine RX_block ?_
    | ((first | refine RX_reg ?_ | refine RX_cond' ?_ | refine RX_draw0 ?_ | refine RX_draw rfl ?_ | refine RX_skip ?_ | refine RX_gfrz ?_ | refine RX_exit ?_ | refine RX_ret ?_); try (simp only [go_sem, Nat.max_zero, List.isEmpty_cons, Int.reduceToNat, Nat.reducePow, Int.reduceEq, Int.reduceNe, Int.reduceLT, Int.reduceLE, Nat.reduceAdd, Nat.reduceLeDiff, ↓reduceIte, Nat.reduceLT, Nat.reduceMul, Nat.reduceSub, reduceCtorEq, frzLoc, rowCells, vAppM, beq_iff_eq, bne_iff_ne, bne_self_eq_false, beq_self_eq_true, beq_true, beq_false, I, B, w, vf258_res, vf258_keep, e126, h0, h1, h2, w3]))))))
    · rw [if_neg (fun hh => h1 hh.2.1)]
      refine CV_run (vf := vf258) rfl rfl ?_
      rw [vf258_start]
      (repeat (first
    | refine RX_seq ?_
    | refine RX_block ?_
    | ((first | refine RX_reg ?_ | refine RX_cond' ?_ | refine RX_draw0 ?_ | refine RX_draw rfl ?_ | refine RX_skip ?_ | refine RX_gfrz ?_ | refine RX_exit ?_ | refine RX_ret ?_); try (simp only [go_sem, Nat.max_zero, List.isEmpty_cons, Int.reduceToNat, Nat.reducePow, Int.reduceEq, Int.reduceNe, Int.reduceLT, Int.reduceLE, Nat.reduceAdd, Nat.reduceLeDiff, ↓reduceIte, Nat.reduceLT, Nat.reduceMul, Nat.reduceSub, reduceCtorEq, frzLoc, rowCells, vAppM, beq_iff_eq, bne_iff_ne, bne_self_eq_false, beq_self_eq_true, beq_true, beq_false, I, B, w, vf258_res, vf258_keep, e126]))))
      refine RX_loop ?_
      (refine RL_head ?_; (simp only [go_sem, Nat.max_zero, List.isEmpty_cons, Int.reduceToNat, Nat.reducePow, Int.reduceEq, Int.reduceNe, Int.reduceLT, Int.reduceLE, Nat.reduceAdd, Nat.reduceLeDiff, ↓reduceIte, Nat.reduceLT, Nat.reduceMul, Nat.reduceSub, reduceCtorEq, frzLoc, rowCells, vAppM, beq_iff_eq, bne_iff_ne, bne_self_eq_false, beq_self_eq_true, beq_true, beq_false, I, B, w, St.head, forget, vf258K0, RLK_some, vf258_res, vf258_keep, e126, h0, h1, w1]); refine vf258L0_go ?_; ((repeat (first
    | refine RX_seq ?_
    | refine RX_block ?_
    | ((first | refine RX_reg ?_ | refine RX_cond' ?_ | refine RX_draw0 ?_ | refine RX_draw rfl ?_ | refine RX_skip ?_ | refine RX_gfrz ?_ | refine RX_exit ?_ | refine RX_ret ?_); try (simp only [go_sem, Nat.max_zero, List.isEmpty_cons, Int.reduceToNat, Nat.reducePow, Int.reduceEq, Int.reduceNe, Int.reduceLT, Int.reduceLE, Nat.reduceAdd, Nat.reduceLeDiff, ↓reduceIte, Nat.reduceLT, Nat.reduceMul, Nat.reduceSub, reduceCtorEq, frzLoc, rowCells, vAppM, beq_iff_eq, bne_iff_ne, bne_self_eq_false, beq_self_eq_true, beq_true, beq_false, I, B, w, vf258_res, vf258_keep, e126, h0, h1, w1]))))))
      (refine RL_head ?_; (simp only [go_sem, Nat.max_zero, List.isEmpty_cons, Int.reduceToNat, Nat.reducePow, Int.reduceEq, Int.reduceNe, Int.reduceLT, Int.reduceLE, Nat.reduceAdd, Nat.reduceLeDiff, ↓reduceIte, Nat.reduceLT, Nat.reduceMul, Nat.reduceSub, reduceCtorEq, frzLoc, rowCells, vAppM, beq_iff_eq, bne_iff_ne, bne_self_eq_false, beq_self_eq_true, beq_true, beq_false, I, B, w, St.head, forget, vf258K0, RLK_some, vf258_res, vf258_keep, e126, h0, h1, w2]); refine vf258L0_go ?_; ((repeat (first
    | refine RX_seq ?_
    | refine RX_block ?_
    | ((first | refine RX_reg ?_ | refine RX_cond' ?_ | refine RX_draw0 ?_ | refine RX_draw rfl ?_ | refine RX_skip ?_ | refine RX_gfrz ?_ | refine RX_exit ?_ | refine RX_ret ?_); try (simp only [go_sem, Nat.max_zero, List.isEmpty_cons, Int.reduceToNat, Nat.reducePow, Int.reduceEq, Int.reduceNe, Int.reduceLT, Int.reduceLE, Nat.reduceAdd, Nat.reduceLeDiff, ↓reduceIte, Nat.reduceLT, Nat.reduceMul, Nat.reduceSub, reduceCtorEq, frzLoc, rowCells, vAppM, beq_iff_eq, bne_iff_ne, bne_self_eq_false, beq_self_eq_true, beq_true, beq_false, I, B, w, vf258_res, vf258_keep, e126, h0, h1, w2]))))))
  · rw [if_neg (fun hh => h0 hh.1)]
    refine CV_run (vf := vf258) rfl rfl ?_
    rw [vf258_start]
    (repeat (first
    | refine RX_seq ?_
    | refine RX_block ?_
    | ((first | refine RX_reg ?_ | refine RX_cond' ?_ | refine RX_draw0 ?_ | refine RX_draw rfl ?_ | refine RX_skip ?_ | refine RX_gfrz ?_ | refine RX_exit ?_ | refine RX_ret ?_); try (simp only [go_sem, Nat.max_zero, List.isEmpty_cons, Int.reduceToNat, Nat.reducePow, Int.reduceEq, Int.reduceNe, Int.reduceLT, Int.reduceLE, Nat.reduceAdd, Nat.reduceLeDiff, ↓reduceIte, Nat.reduceLT, Nat.reduceMul, Nat.reduceSub, reduceCtorEq, frzLoc, rowCells, vAppM, beq_iff_eq, bne_iff_ne, bne_self_eq_false, beq_self_eq_true, beq_true, beq_false, I, B, w, vf258_res, vf258_keep, e126]))))
    refine RX_loop ?_
    (refine RL_head ?_; (simp only [go_sem, Nat.max_zero, List.isEmpty_cons, Int.reduceToNat, Nat.reducePow, Int.reduceEq, Int.reduceNe, Int.reduceLT, Int.reduceLE, Nat.reduceAdd, Nat.reduceLeDiff, ↓reduceIte, Nat.reduceLT, Nat.reduceMul, Nat.reduceSub, reduceCtorEq, frzLoc, rowCells, vAppM, beq_iff_eq, bne_iff_ne, bne_self_eq_false, beq_self_eq_true, beq_true, beq_false, I, B, w, St.head, forget, vf258K0, RLK_some, vf258_res, vf258_keep, e126, h0, w1]); refine vf258L0_go ?_; ((repeat (first
    | refine RX_seq ?_
    | refine RX_block ?_
    | ((first | refine RX_reg ?_ | refine RX_cond' ?_ | refine RX_draw0 ?_ | refine RX_draw rfl ?_ | refine RX_skip ?_ | refine RX_gfrz ?_ | refine RX_exit ?_ | refine RX_ret ?_); try (simp only [go_sem, Nat.max_zero, List.isEmpty_cons, Int.reduceToNat, Nat.reducePow, Int.reduceEq, Int.reduceNe, Int.reduceLT, Int.reduceLE, Nat.reduceAdd, Nat.reduceLeDiff, ↓reduceIte, Nat.reduceLT, Nat.reduceMul, Nat.reduceSub, reduceCtorEq, frzLoc, rowCells, vAppM, beq_iff_eq, bne_iff_ne, bne_self_eq_false, beq_self_eq_true, beq_true, beq_false, I, B, w, vf258_res, vf258_keep, e126, h0, w1]))))))
theorem e112d (f h f' h' a0 a1 a2 a3 a4 b0 b1 b2 b3 b4 c0 c1 c2 c3 c4 d0 d1 d2 d3 d4 : Int) (hf : f ≠ f') : CV VP 258 [.agg [.d (I f), .d (U h), .d (U a0), .d (I f), .d (U h), .d (U b0), .d (I f), .d (U h), .d (U a1), .d (I f), .d (U h), .d (U b1), .d (I 0), .d (U 0), .d (U a2), .d (I 0), .d (U 0), .d (U b2), .d (I 0), .d (U 0), .d (U a3), .d (I 0), .d (U 0), .d (U b3), .d (I 0), .d (U 0), .d (U a4), .d (I 0), .d (U 0), .d (U b4)], .agg [.d (I f'), .d (U h'), .d (U c0), .d (I f'), .d (U h'), .d (U d0), .d (I f'), .d (U h'), .d (U c1), .d (I f'), .d (U h'), .d (U d1), .d (I 0), .d (U 0), .d (U c2), .d (I 0), .d (U 0), .d (U d2), .d (I 0), .d (U 0), .d (U c3), .d (I 0), .d (U 0), .d (U d3), .d (I 0), .d (U 0), .d (U c4), .d (I 0), .d (U 0), .d (U d4)]] [] = some ⟨.tup [.agg [.d (I 0), .d (U 0), .d (U 0), .d (I 0), .d (U 0), .d (U 0), .d (I 0), .d (U 0), .d (U 0), .d (I 0), .d (U 0), .d (U 0), .d (I 0), .d (U 0), .d (U 0), .d (I 0), .d (U 0), .d (U 0), .d (I 0), .d (U 0), .d (U 0), .d (I 0), .d (U 0), .d (U 0), .d (I 0), .d (U 0), .d (U 0), .d (I 0), .d (U 0), .d (U 0)], .d (B false)], [], [], 0⟩ := by
  rcases Int.lt_or_gt_of_ne hf with h0 | h0
  · have q := e126l f h a0 b0 f' h' c0 d0 h0
    refine CV_run (vf := vf258) rfl rfl ?_
    rw [vf258_start]
    (repeat (first
    | refine RX_seq ?_
    | refine RX_block ?_
    | ((first | refine RX_reg ?_ | refine RX_cond' ?_ | refine RX_draw0 ?_ | refine RX_draw rfl ?_ | refine RX_skip ?_ | refine RX_gfrz ?_ | refine RX_exit ?_ | refine RX_ret ?_); try (simp only [go_sem, Nat.max_zero, List.isEmpty_cons, Int.reduceToNat, Nat.reducePow, Int.reduceEq, Int.reduceNe, Int.reduceLT, Int.reduceLE, Nat.reduceAdd, Nat.reduceLeDiff, ↓reduceIte, Nat.reduceLT, Nat.reduceMul, Nat.reduceSub, reduceCtorEq, frzLoc, rowCells, vAppM, beq_iff_eq, bne_iff_ne, bne_self_eq_false, beq_self_eq_true, beq_true, beq_false, I, B, w, vf258_res, vf258_keep]))))
    refine RX_loop ?_
    (refine RL_head ?_; (simp only [go_sem, Nat.max_zero, List.isEmpty_cons, Int.reduceToNat, Nat.reducePow, Int.reduceEq, Int.reduceNe, Int.reduceLT, Int.reduceLE, Nat.reduceAdd, Nat.reduceLeDiff, ↓reduceIte, Nat.reduceLT, Nat.reduceMul, Nat.reduceSub, reduceCtorEq, frzLoc, rowCells, vAppM, beq_iff_eq, bne_iff_ne, bne_self_eq_false, beq_self_eq_true, beq_true, beq_false, I, B, w, St.head, forget, vf258K0, RLK_some, vf258_res, vf258_keep, q]); refine vf258L0_go ?_; ((repeat (first
    | refine RX_seq ?_
    | refine RX_block ?_
    | ((first | refine RX_reg ?_ | refine RX_cond' ?_ | refine RX_draw0 ?_ | refine RX_draw rfl ?_ | refine RX_skip ?_ | refine RX_gfrz ?_ | refine RX_exit ?_ | refine RX_ret ?_); try (simp only [go_sem, Nat.max_zero, List.isEmpty_cons, Int.reduceToNat, Nat.reducePow, Int.reduceEq, Int.reduceNe, Int.reduceLT, Int.reduceLE, Nat.reduceAdd, Nat.reduceLeDiff, ↓reduceIte, Nat.reduceLT, Nat.reduceMul, Nat.reduceSub, reduceCtorEq, frzLoc, rowCells, vAppM, beq_iff_eq, bne_iff_ne, bne_self_eq_false, beq_self_eq_true, beq_true, beq_false, I, B, w, vf258_res, vf258_keep, q]))))))
  · have q := e126g f h a0 b0 f' h' c0 d0 h0
    refine CV_run (vf := vf258) rfl rfl ?_
    rw [vf258_start]
    (repeat (first
    | refine RX_seq ?_
    | refine RX_block ?_
    | ((first | refine RX_reg ?_ | refine RX_cond' ?_ | refine RX_draw0 ?_ | refine RX_draw rfl ?_ | refine RX_skip ?_ | refine RX_gfrz ?_ | refine RX_exit ?_ | refine RX_ret ?_); try (simp only [go_sem, Nat.max_zero, List.isEmpty_cons, Int.reduceToNat, Nat.reducePow, Int.reduceEq, Int.reduceNe, Int.reduceLT, Int.reduceLE, Nat.reduceAdd, Nat.reduceLeDiff, ↓reduceIte, Nat.reduceLT, Nat.reduceMul, Nat.reduceSub, reduceCtorEq, frzLoc, rowCells, vAppM, beq_iff_eq, bne_iff_ne, bne_self_eq_false, beq_self_eq_true, beq_true, beq_false, I, B, w, vf258_res, vf258_keep]))))
    refine RX_loop ?_
    (refine RL_head ?_; (simp only [go_sem, Nat.max_zero, List.isEmpty_cons, Int.reduceToNat, Nat.reducePow, Int.reduceEq, Int.reduceNe, Int.reduceLT, Int.reduceLE, Nat.reduceAdd, Nat.reduceLeDiff, ↓reduceIte, Nat.reduceLT, Nat.reduceMul, Nat.reduceSub, reduceCtorEq, frzLoc, rowCells, vAppM, beq_iff_eq, bne_iff_ne, bne_self_eq_false, beq_self_eq_true, beq_true, beq_false, I, B, w, St.head, forget, vf258K0, RLK_some, vf258_res, vf258_keep, q]); refine vf258L0_go ?_; ((repeat (first
    | refine RX_seq ?_
    | refine RX_block ?_
    | ((first | refine RX_reg ?_ | refine RX_cond' ?_ | refine RX_draw0 ?_ | refine RX_draw rfl ?_ | refine RX_skip ?_ | refine RX_gfrz ?_ | refine RX_exit ?_ | refine RX_ret ?_); try (simp only [go_sem, Nat.max_zero, List.isEmpty_cons, Int.reduceToNat, Nat.reducePow, Int.reduceEq, Int.reduceNe, Int.reduceLT, Int.reduceLE, Nat.reduceAdd, Nat.reduceLeDiff, ↓reduceIte, Nat.reduceLT, Nat.reduceMul, Nat.reduceSub, reduceCtorEq, frzLoc, rowCells, vAppM, beq_iff_eq, bne_iff_ne, bne_self_eq_false, beq_self_eq_true, beq_true, beq_false, I, B, w, vf258_res, vf258_keep, q]))))))
end Go.Proofs.YtknbgkfojmedpaaGreat
namespace Go.Proofs.YtknbgkfojmedpaaGreat
open Go.VM
theorem num_u {n : Int} (h : num n) : IntKind.u64.wrap (IntKind.i64.wrap (n + 1)) = n + 1 := by
  obtain ⟨h1, h2⟩ := h
  rw [w_in (by omega) (by omega)]
  simp [IntKind.wrap, IntKind.signed, IntKind.bits]
  omega
theorem num_d {n : Int} (h1 : 0 ≤ n) (h2 : n ≤ 65536) : IntKind.i64.wrap (IntKind.i64.wrap n - 1) = n - 1 := by
  rw [w_in (x := n) (by omega) (by omega), w_in (by omega) (by omega)]
theorem e111 (f h a0 b0 a1 b1 p0 p1 l0 l1 r0 r1 : Int) (h1 : num p0) (h2 : num p1) (h3 : num l0) (h4 : num l1) (h5 : num r0) (h6 : num r1) :
    CV VP 257 [bxV f h a0 b0 a1 b1 p0 p1 l0 l1 r0 r1] [] = some ⟨.agg [.d (I f), .d (U h), .d (U a0), .d (I f), .d (U h), .d (U b0), .d (I f), .d (U h), .d (U a1), .d (I f), .d (U h), .d (U b1), .d (I 0), .d (U 0), .d (U (p0 + 1)), .d (I 0), .d (U 0), .d (U (p1 + 1)), .d (I 0), .d (U 0), .d (U (l0 + 1)), .d (I 0), .d (U 0), .d (U (l1 + 1)), .d (I 0), .d (U 0), .d (U (r0 + 1)), .d (I 0), .d (U 0), .d (U (r1 + 1))], [], [], 0⟩ := by
  refine CV_run (vf := vf257) rfl rfl ?_
  rw [vf257_start]
  (repeat (first
    | refine RX_seq ?_
    | refine RX_block ?_
    | ((first | refine RX_reg ?_ | refine RX_cond' ?_ | refine RX_draw0 ?_ | refine RX_draw rfl ?_ | refine RX_skip ?_ | refine RX_gfrz ?_ | refine RX_exit ?_ | refine RX_ret ?_); try (simp only [go_sem, Nat.max_zero, List.isEmpty_cons, Int.reduceToNat, Nat.reducePow, Int.reduceEq, Int.reduceNe, Int.reduceLT, Int.reduceLE, Nat.reduceAdd, Nat.reduceLeDiff, ↓reduceIte, Nat.reduceLT, Nat.reduceMul, Nat.reduceSub, reduceCtorEq, frzLoc, rowCells, vAppM, beq_iff_eq, bne_iff_ne, bne_self_eq_false, beq_self_eq_true, beq_true, beq_false, I, B, w, vf257_res, vf257_keep, e124, e125, num_u h1, num_u h2, num_u h3, num_u h4, num_u h5, num_u h6]))))
theorem e113 (f h a0 b0 a1 b1 p0 p1 l0 l1 r0 r1 : Int) (h1 : num (p0 - 1)) (h2 : num (p1 - 1)) (h3 : num (l0 - 1)) (h4 : num (l1 - 1)) (h5 : num (r0 - 1)) (h6 : num (r1 - 1)) :
    CV VP 259 [.agg [.d (I f), .d (U h), .d (U a0), .d (I f), .d (U h), .d (U b0), .d (I f), .d (U h), .d (U a1), .d (I f), .d (U h), .d (U b1), .d (I 0), .d (U 0), .d (U p0), .d (I 0), .d (U 0), .d (U p1), .d (I 0), .d (U 0), .d (U l0), .d (I 0), .d (U 0), .d (U l1), .d (I 0), .d (U 0), .d (U r0), .d (I 0), .d (U 0), .d (U r1)]] [] = some ⟨bxV f h a0 b0 a1 b1 (p0 - 1) (p1 - 1) (l0 - 1) (l1 - 1) (r0 - 1) (r1 - 1), [], [], 0⟩ := by
  have n1 := num_d (n := p0) (by unfold num at h1; omega) (by unfold num at h1; omega)
  have n2 := num_d (n := p1) (by unfold num at h2; omega) (by unfold num at h2; omega)
  have n3 := num_d (n := l0) (by unfold num at h3; omega) (by unfold num at h3; omega)
  have n4 := num_d (n := l1) (by unfold num at h4; omega) (by unfold num at h4; omega)
  have n5 := num_d (n := r0) (by unfold num at h5; omega) (by unfold num at h5; omega)
  have n6 := num_d (n := r1) (by unfold num at h6; omega) (by unfold num at h6; omega)
  refine CV_run (vf := vf259) rfl rfl ?_
  rw [vf259_start]
  (repeat (first
    | refine RX_seq ?_
    | refine RX_block ?_
    | ((first | refine RX_reg ?_ | refine RX_cond' ?_ | refine RX_draw0 ?_ | refine RX_draw rfl ?_ | refine RX_skip ?_ | refine RX_gfrz ?_ | refine RX_exit ?_ | refine RX_ret ?_); try (simp only [go_sem, Nat.max_zero, List.isEmpty_cons, Int.reduceToNat, Nat.reducePow, Int.reduceEq, Int.reduceNe, Int.reduceLT, Int.reduceLE, Nat.reduceAdd, Nat.reduceLeDiff, ↓reduceIte, Nat.reduceLT, Nat.reduceMul, Nat.reduceSub, reduceCtorEq, frzLoc, rowCells, vAppM, beq_iff_eq, bne_iff_ne, bne_self_eq_false, beq_self_eq_true, beq_true, beq_false, I, B, w, vf259_res, vf259_keep, e127, e128, n1, n2, n3, n4, n5, n6]))))
open Classical in
noncomputable def Bx.meetR (x y : Bx) : Ret := if x.f = y.f ∧ x.over y then ⟨.tup [(x.meet y).ag, .d (B true)], [], [], 0⟩ else ⟨.tup [Bx.zero.ag, .d (B false)], [], [], 0⟩
theorem num_max {a b : Int} (h : num a) (h' : num b) : num (max (a + 1) (b + 1) - 1) := by unfold num at *; omega
theorem num_min {a b : Int} (h : num a) (h' : num b) : num (min (a + 1) (b + 1) - 1) := by unfold num at *; omega
theorem max1 (a b : Int) : max (a + 1) (b + 1) - 1 = max a b := by omega
theorem min1 (a b : Int) : min (a + 1) (b + 1) - 1 = min a b := by omega
theorem mm1 (a b c d : Int) : max (a + 1) (b + 1) ≤ min (c + 1) (d + 1) ↔ max a b ≤ min c d := by omega
set_option maxHeartbeats 1000000 in
theorem e92 (x y : Bx) (hx : x.ok) (hy : y.ok) : CV VP 236 [x.ag, y.ag] [] = some (x.meetR y) := by
  have x1 := e111 x.f x.h x.a0 x.b0 x.a1 x.b1 x.p0 x.p1 x.l0 x.l1 x.r0 x.r1 hx.p0 hx.p1 hx.l0 hx.l1 hx.r0 hx.r1
  have y1 := e111 y.f y.h y.a0 y.b0 y.a1 y.b1 y.p0 y.p1 y.l0 y.l1 y.r0 y.r1 hy.p0 hy.p1 hy.l0 hy.l1 hy.r0 hy.r1
  unfold Bx.meetR
  by_cases hf : x.f = y.f
  · have hh : x.h = y.h := by have a := hx.fam; have b := hy.fam; omega
    rw [← hf, ← hh] at y1
    have m1 := e112 x.f x.h x.a0 x.a1 (x.p0 + 1) (x.l0 + 1) (x.r0 + 1) x.b0 x.b1 (x.p1 + 1) (x.l1 + 1) (x.r1 + 1) y.a0 y.a1 (y.p0 + 1) (y.l0 + 1) (y.r0 + 1) y.b0 y.b1 (y.p1 + 1) (y.l1 + 1) (y.r1 + 1)
    by_cases ho : x.over y
    · rw [if_pos (by rw [mm1, mm1, mm1]; exact ho)] at m1
      rw [if_pos ⟨hf, ho⟩]
      have k1 := e113 x.f x.h (max x.a0 y.a0) (min x.b0 y.b0) (max x.a1 y.a1) (min x.b1 y.b1) (max (x.p0 + 1) (y.p0 + 1)) (min (x.p1 + 1) (y.p1 + 1)) (max (x.l0 + 1) (y.l0 + 1)) (min (x.l1 + 1) (y.l1 + 1)) (max (x.r0 + 1) (y.r0 + 1)) (min (x.r1 + 1) (y.r1 + 1))
        (num_max hx.p0 hy.p0) (num_min hx.p1 hy.p1) (num_max hx.l0 hy.l0) (num_min hx.l1 hy.l1) (num_max hx.r0 hy.r0) (num_min hx.r1 hy.r1)
      rw [max1, max1, max1, min1, min1, min1] at k1
      refine CV_run (vf := vf236) rfl rfl ?_
      rw [vf236_start]
      simp only [Bx.meet]
      rw [hf, hh] at x1 y1 m1 k1
      (repeat (first
    | refine RX_seq ?_
    | refine RX_block ?_
    | ((first | refine RX_reg ?_ | refine RX_cond' ?_ | refine RX_draw0 ?_ | refine RX_draw rfl ?_ | refine RX_skip ?_ | refine RX_gfrz ?_ | refine RX_exit ?_ | refine RX_ret ?_); try (simp only [go_sem, Nat.max_zero, List.isEmpty_cons, Int.reduceToNat, Nat.reducePow, Int.reduceEq, Int.reduceNe, Int.reduceLT, Int.reduceLE, Nat.reduceAdd, Nat.reduceLeDiff, ↓reduceIte, Nat.reduceLT, Nat.reduceMul, Nat.reduceSub, reduceCtorEq, frzLoc, rowCells, vAppM, beq_iff_eq, bne_iff_ne, bne_self_eq_false, beq_self_eq_true, beq_true, beq_false, I, B, w, vf236_res, vf236_keep, hf, hh, x1, y1, m1, k1]))))
    · rw [if_neg (by rw [mm1, mm1, mm1]; exact ho)] at m1
      rw [if_neg (fun q => ho q.2)]
      refine CV_run (vf := vf236) rfl rfl ?_
      rw [vf236_start]
      rw [hf, hh] at x1 y1 m1
      (repeat (first
    | refine RX_seq ?_
    | refine RX_block ?_
    | ((first | refine RX_reg ?_ | refine RX_cond' ?_ | refine RX_draw0 ?_ | refine RX_draw rfl ?_ | refine RX_skip ?_ | refine RX_gfrz ?_ | refine RX_exit ?_ | refine RX_ret ?_); try (simp only [go_sem, Nat.max_zero, List.isEmpty_cons, Int.reduceToNat, Nat.reducePow, Int.reduceEq, Int.reduceNe, Int.reduceLT, Int.reduceLE, Nat.reduceAdd, Nat.reduceLeDiff, ↓reduceIte, Nat.reduceLT, Nat.reduceMul, Nat.reduceSub, reduceCtorEq, frzLoc, rowCells, vAppM, beq_iff_eq, bne_iff_ne, bne_self_eq_false, beq_self_eq_true, beq_true, beq_false, I, B, w, vf236_res, vf236_keep, hf, hh, x1, y1, m1]))))
  · rw [if_neg (fun q => hf q.1)]
    have m1 := e112d x.f x.h y.f y.h x.a0 x.a1 (x.p0 + 1) (x.l0 + 1) (x.r0 + 1) x.b0 x.b1 (x.p1 + 1) (x.l1 + 1) (x.r1 + 1) y.a0 y.a1 (y.p0 + 1) (y.l0 + 1) (y.r0 + 1) y.b0 y.b1 (y.p1 + 1) (y.l1 + 1) (y.r1 + 1) hf
    refine CV_run (vf := vf236) rfl rfl ?_
    rw [vf236_start]
    (repeat (first
    | refine RX_seq ?_
    | refine RX_block ?_
    | ((first | refine RX_reg ?_ | refine RX_cond' ?_ | refine RX_draw0 ?_ | refine RX_draw rfl ?_ | refine RX_skip ?_ | refine RX_gfrz ?_ | refine RX_exit ?_ | refine RX_ret ?_); try (simp only [go_sem, Nat.max_zero, List.isEmpty_cons, Int.reduceToNat, Nat.reducePow, Int.reduceEq, Int.reduceNe, Int.reduceLT, Int.reduceLE, Nat.reduceAdd, Nat.reduceLeDiff, ↓reduceIte, Nat.reduceLT, Nat.reduceMul, Nat.reduceSub, reduceCtorEq, frzLoc, rowCells, vAppM, beq_iff_eq, bne_iff_ne, bne_self_eq_false, beq_self_eq_true, beq_true, beq_false, I, B, w, vf236_res, vf236_keep, x1, y1, m1]))))
end Go.Proofs.YtknbgkfojmedpaaGreat
namespace Go.Proofs.YtknbgkfojmedpaaGreat
open Go.VM
theorem num_mx {a b : Int} (h : num a) (h' : num b) : num (max a b) := by unfold num at *; omega
theorem num_mn {a b : Int} (h : num a) (h' : num b) : num (min a b) := by unfold num at *; omega
end Go.Proofs.YtknbgkfojmedpaaGreat
namespace Go.Proofs.YtknbgkfojmedpaaGreat
open Go.VM
def Bx.beq (x y : Bx) : Bool := decide (x.f = y.f) && (decide (x.h = y.h) && (decide (x.a0 = y.a0) && (decide (x.b0 = y.b0) && (decide (x.a1 = y.a1) && (decide (x.b1 = y.b1) && (decide (x.p0 = y.p0) && (decide (x.p1 = y.p1) && (decide (x.l0 = y.l0) && (decide (x.l1 = y.l1) && (decide (x.r0 = y.r0) && decide (x.r1 = y.r1)))))))))))
theorem Bx.swap_ok {x : Bx} (h : x.ok) : x.swap.ok := ⟨h.fam, h.p0, h.p1, h.r0, h.r1, h.l0, h.l1⟩
theorem Bx.meet_ok {x y : Bx} (h : x.ok) (k : y.ok) : (x.meet y).ok := ⟨h.fam, num_mx h.p0 k.p0, num_mn h.p1 k.p1, num_mx h.l0 k.l0, num_mn h.l1 k.l1, num_mx h.r0 k.r0, num_mn h.r1 k.r1⟩
end Go.Proofs.YtknbgkfojmedpaaGreat
namespace Go.Proofs.YtknbgkfojmedpaaGreat
open Go.VM
instance (x y : Bx) : Decidable (x.over y) := by unfold Bx.over; infer_instance
def fbx (b : Bx) : List Bx → Option Bx
  | [] => none
  | x :: xs => if b.f = x.f ∧ b.over x then some (b.meet x) else fbx b xs
theorem fbx_drop {b : Bx} {xs : List Bx} {i : Nat} {x : Bx} (h : xs[i]? = some x) : fbx b (xs.drop i) = if b.f = x.f ∧ b.over x then some (b.meet x) else fbx b (xs.drop (i + 1)) := by
  obtain ⟨h1, h2⟩ := List.getElem?_eq_some_iff.1 h
  rw [List.drop_eq_getElem_cons h1, h2, fbx]
def nar (b : Bx) (t : ByteArray) : Nat → List Ru → Option (Nat × Bx)
  | _, [] => none
  | i, r :: rs => if r.act = 2 ∧ (r.tm.toList == t.toList) = true then (match fbx b r.bs with | some m => some (i, m) | none => nar b t (i + 1) rs) else nar b t (i + 1) rs
theorem nar_drop {b : Bx} {t : ByteArray} {rs : List Ru} {i : Nat} {r : Ru} (h : rs[i]? = some r) :
    nar b t i (rs.drop i) = if r.act = 2 ∧ (r.tm.toList == t.toList) = true then (match fbx b r.bs with | some m => some (i, m) | none => nar b t (i + 1) (rs.drop (i + 1))) else nar b t (i + 1) (rs.drop (i + 1)) := by
  obtain ⟨h1, h2⟩ := List.getElem?_eq_some_iff.1 h
  rw [List.drop_eq_getElem_cons h1, h2, nar]
def narV (o : Option (Nat × Bx)) : V := match o with
  | some (i, m) => .tup [.d (I i), m.ag, .d (B true)]
  | none => .tup [.d (I 0), Bx.zero.ag, .d (B false)]
theorem e48 (rs : List Ru) (b : Bx) (t : ByteArray) (hl : rs.length < 1000) (hr : ∀ r ∈ rs, r.ok) (hb : b.ok) :
    CV VP 210 [.d (.sl (rs.map Ru.row)), b.ag, .d (.lit (.string t))] [] = some ⟨narV (nar b.swap t 0 rs), [], [], 0⟩ := by
  have hsw := e65 b
  have hbs := Bx.swap_ok hb
  generalize b.swap = c at *
  refine CV_run (vf := vf210) rfl rfl ?_
  rw [vf210_start]
  (repeat (first
    | refine RX_seq ?_
    | refine RX_block ?_
    | ((first | refine RX_reg ?_ | refine RX_cond' ?_ | refine RX_draw0 ?_ | refine RX_draw rfl ?_ | refine RX_skip ?_ | refine RX_gfrz ?_ | refine RX_exit ?_ | refine RX_ret ?_); try (simp only [go_sem, Nat.max_zero, List.isEmpty_cons, Int.reduceToNat, Nat.reducePow, Int.reduceEq, Int.reduceNe, Int.reduceLT, Int.reduceLE, Nat.reduceAdd, Nat.reduceLeDiff, ↓reduceIte, Nat.reduceLT, Nat.reduceMul, Nat.reduceSub, reduceCtorEq, frzLoc, rowCells, vAppM, beq_iff_eq, bne_iff_ne, bne_self_eq_false, beq_self_eq_true, beq_true, beq_false, I, B, w, vf210_res, vf210_keep, List.length_map, hsw]))))
  refine RX_loopN (n := 2) rfl ?_
  refine RL_ind (fun m st => ∃ (i : Nat), i + m = rs.length ∧ nar c t i (rs.drop i) = nar c t 0 rs ∧
    At vf210K0 2 st ((.any :: .any :: .d (.lit (.string t)) :: .any :: .ptr 0 0 :: .any :: .any :: .ptr 1 0 :: .any :: .any :: .any :: .any :: .any :: .any :: .any :: .any :: .any :: .d (.sl (rs.map Ru.row)) :: .d (I (rs.length : Nat)) :: .d (I (i : Nat)) :: .any :: .any :: .any :: .any :: .any :: .any :: .any :: .any :: .any :: .any :: .any :: .any :: .any :: .any :: .any :: .any :: .any :: .any :: .any :: .any :: .any :: .any :: .any :: .any :: .any :: .any :: .any :: .any :: .any :: .any :: .any :: .any :: [])) [c.row.map .d, Bx.zero.row.map .d] [] 0 0) ?_ rs.length _ ⟨0, Nat.zero_add _, rfl, rfl, rfl, rfl, rfl, rfl, rfl⟩
  rintro m st ⟨i, hi, hf, hat⟩ ih
  refine RL_at hat rfl rfl (vf210L0_go ?_)
  cases m with
  | zero =>
    have h1 : ¬ i < rs.length := by omega
    rw [List.drop_eq_nil_of_le (by omega)] at hf
    rw [← hf]
    simp only [nar, narV]
    (repeat (first
    | refine RX_seq ?_
    | refine RX_block ?_
    | ((first | refine RX_reg ?_ | refine RX_cond' ?_ | refine RX_draw0 ?_ | refine RX_draw rfl ?_ | refine RX_skip ?_ | refine RX_gfrz ?_ | refine RX_exit ?_ | refine RX_ret ?_); try (simp only [go_sem, Nat.max_zero, List.isEmpty_cons, Int.reduceToNat, Nat.reducePow, Int.reduceEq, Int.reduceNe, Int.reduceLT, Int.reduceLE, Nat.reduceAdd, Nat.reduceLeDiff, ↓reduceIte, Nat.reduceLT, Nat.reduceMul, Nat.reduceSub, reduceCtorEq, frzLoc, rowCells, vAppM, beq_iff_eq, bne_iff_ne, bne_self_eq_false, beq_self_eq_true, beq_true, beq_false, I, B, w, vf210_res, vf210_keep, h1]))))
  | succ m =>
    have h1 : i < rs.length := by omega
    obtain ⟨r, hri⟩ : ∃ r, rs[i]? = some r := ⟨_, List.getElem?_eq_getElem h1⟩
    rw [nar_drop hri] at hf
    have hrow : (rs.map Ru.row)[i]? = some r.row := by rw [List.getElem?_map, hri]; rfl
    have hrok := hr r (List.mem_of_getElem? hri)
    have hwi := w_nat (i := i) (by omega)
    have next := fun (hp : nar c t (i + 1) (rs.drop (i + 1)) = nar c t 0 rs) st hat => ih m st (Nat.lt_succ_self m) ⟨i + 1, by omega, hp, hat⟩
    clear ih
    by_cases c1 : r.act = 2
    · cases c2 : r.tm.toList == t.toList with
      | true =>
        rw [if_pos ⟨c1, c2⟩] at hf
        (repeat (first
    | refine RX_seq ?_
    | refine RX_block ?_
    | ((first | refine RX_reg ?_ | refine RX_cond' ?_ | refine RX_draw0 ?_ | refine RX_draw rfl ?_ | refine RX_skip ?_ | refine RX_gfrz ?_ | refine RX_exit ?_ | refine RX_ret ?_); try (simp only [go_sem, Nat.max_zero, List.isEmpty_cons, Int.reduceToNat, Nat.reducePow, Int.reduceEq, Int.reduceNe, Int.reduceLT, Int.reduceLE, Nat.reduceAdd, Nat.reduceLeDiff, ↓reduceIte, Nat.reduceLT, Nat.reduceMul, Nat.reduceSub, reduceCtorEq, frzLoc, rowCells, vAppM, beq_iff_eq, bne_iff_ne, bne_self_eq_false, beq_self_eq_true, beq_true, beq_false, I, B, w, vf210_res, vf210_keep, h1, hrow, c1, c2, List.length_map, hwi, vStr]))))
        refine RX_loopN (n := 3) rfl ?_
        have hres : narV (nar c t 0 rs) = narV (match fbx c r.bs with | some m => some (i, m) | none => nar c t 0 rs) := by
          rw [← hf]
          cases fbx c r.bs <;> rfl
        rw [hres]
        refine RL_ind (fun q st => ∃ (j : Nat), j + q = r.bs.length ∧ fbx c (r.bs.drop j) = fbx c r.bs ∧
          At vf210K1 3 st ((.any :: .any :: .d (.lit (.string t)) :: .any :: .ptr 0 0 :: .any :: .any :: .ptr 1 0 :: .any :: .d (I (i : Nat)) :: .any :: .any :: .any :: .any :: .any :: .any :: .any :: .d (.sl (rs.map Ru.row)) :: .d (I (rs.length : Nat)) :: .d (I (i : Nat)) :: .any :: .any :: .any :: .any :: .any :: .any :: .any :: .any :: .any :: .any :: .any :: .any :: .any :: .any :: .d (.sl (r.bs.map Bx.row)) :: .d (I (r.bs.length : Nat)) :: .d (I (j : Nat)) :: .any :: .any :: .any :: .any :: .any :: .any :: .any :: .any :: .any :: .any :: .any :: .any :: .any :: .any :: .any :: []))
            [c.row.map .d, Bx.zero.row.map .d, [.d (I 2), .d (.lit (.string r.tm)), .d (.sl (r.bs.map Bx.row))]] [] 0 0) ?_ r.bs.length _ ⟨0, Nat.zero_add _, rfl, rfl, rfl, rfl, rfl, rfl, rfl⟩
        rintro q st ⟨j, hj, hg, hat2⟩ ih2
        refine RL_at hat2 rfl rfl (vf210L1_go ?_)
        cases q with
        | zero =>
          have g1 : ¬ j < r.bs.length := by omega
          rw [List.drop_eq_nil_of_le (by omega), fbx] at hg
          rw [← hg] at hf ⊢
          simp only at hf ⊢
          (repeat (first
    | refine RX_seq ?_
    | refine RX_block ?_
    | ((first | refine RX_reg ?_ | refine RX_cond' ?_ | refine RX_draw0 ?_ | refine RX_draw rfl ?_ | refine RX_skip ?_ | refine RX_gfrz ?_ | refine RX_exit ?_ | refine RX_ret ?_); try (simp only [go_sem, Nat.max_zero, List.isEmpty_cons, Int.reduceToNat, Nat.reducePow, Int.reduceEq, Int.reduceNe, Int.reduceLT, Int.reduceLE, Nat.reduceAdd, Nat.reduceLeDiff, ↓reduceIte, Nat.reduceLT, Nat.reduceMul, Nat.reduceSub, reduceCtorEq, frzLoc, rowCells, vAppM, beq_iff_eq, bne_iff_ne, bne_self_eq_false, beq_self_eq_true, beq_true, beq_false, I, B, w, vf210_res, vf210_keep, g1, hwi, List.length_map]))))
          exact next hf _ ⟨rfl, rfl, rfl, rfl, rfl, rfl⟩
        | succ q =>
          have g1 : j < r.bs.length := by omega
          obtain ⟨x, hxj⟩ : ∃ x, r.bs[j]? = some x := ⟨_, List.getElem?_eq_getElem g1⟩
          rw [fbx_drop hxj] at hg
          have hxrow : (r.bs.map Bx.row)[j]? = some x.row := by rw [List.getElem?_map, hxj]; rfl
          have h92 := e92 c x hbs (hrok.bs x (List.mem_of_getElem? hxj))
          have hrl := hrok.len
          have hwj := w_nat (i := j) (by omega)
          unfold Bx.meetR at h92
          by_cases d1 : c.f = x.f ∧ c.over x
          · rw [if_pos d1] at h92 hg
            rw [← hg]
            simp only [narV]
            (repeat (first
    | refine RX_seq ?_
    | refine RX_block ?_
    | ((first | refine RX_reg ?_ | refine RX_cond' ?_ | refine RX_draw0 ?_ | refine RX_draw rfl ?_ | refine RX_skip ?_ | refine RX_gfrz ?_ | refine RX_exit ?_ | refine RX_ret ?_); try (simp only [go_sem, Nat.max_zero, List.isEmpty_cons, Int.reduceToNat, Nat.reducePow, Int.reduceEq, Int.reduceNe, Int.reduceLT, Int.reduceLE, Nat.reduceAdd, Nat.reduceLeDiff, ↓reduceIte, Nat.reduceLT, Nat.reduceMul, Nat.reduceSub, reduceCtorEq, frzLoc, rowCells, vAppM, beq_iff_eq, bne_iff_ne, bne_self_eq_false, beq_self_eq_true, beq_true, beq_false, I, B, w, vf210_res, vf210_keep, g1, hxrow, hwj, h92, List.length_map]))))
          · rw [if_neg d1] at h92 hg
            (repeat (first
    | refine RX_seq ?_
    | refine RX_block ?_
    | ((first | refine RX_reg ?_ | refine RX_cond' ?_ | refine RX_draw0 ?_ | refine RX_draw rfl ?_ | refine RX_skip ?_ | refine RX_gfrz ?_ | refine RX_exit ?_ | refine RX_ret ?_); try (simp only [go_sem, Nat.max_zero, List.isEmpty_cons, Int.reduceToNat, Nat.reducePow, Int.reduceEq, Int.reduceNe, Int.reduceLT, Int.reduceLE, Nat.reduceAdd, Nat.reduceLeDiff, ↓reduceIte, Nat.reduceLT, Nat.reduceMul, Nat.reduceSub, reduceCtorEq, frzLoc, rowCells, vAppM, beq_iff_eq, bne_iff_ne, bne_self_eq_false, beq_self_eq_true, beq_true, beq_false, I, B, w, vf210_res, vf210_keep, g1, hxrow, hwj, h92, List.length_map]))))
            exact ih2 q _ (Nat.lt_succ_self q) ⟨j + 1, by omega, hg, rfl, rfl, rfl, rfl, rfl, rfl⟩
      | false =>
        rw [if_neg (by rintro ⟨_, h⟩; rw [c2] at h; cases h)] at hf
        (repeat (first
    | refine RX_seq ?_
    | refine RX_block ?_
    | ((first | refine RX_reg ?_ | refine RX_cond' ?_ | refine RX_draw0 ?_ | refine RX_draw rfl ?_ | refine RX_skip ?_ | refine RX_gfrz ?_ | refine RX_exit ?_ | refine RX_ret ?_); try (simp only [go_sem, Nat.max_zero, List.isEmpty_cons, Int.reduceToNat, Nat.reducePow, Int.reduceEq, Int.reduceNe, Int.reduceLT, Int.reduceLE, Nat.reduceAdd, Nat.reduceLeDiff, ↓reduceIte, Nat.reduceLT, Nat.reduceMul, Nat.reduceSub, reduceCtorEq, frzLoc, rowCells, vAppM, beq_iff_eq, bne_iff_ne, bne_self_eq_false, beq_self_eq_true, beq_true, beq_false, I, B, w, vf210_res, vf210_keep, h1, hrow, c1, c2, List.length_map, hwi, vStr]))))
        exact next hf _ ⟨rfl, rfl, rfl, rfl, rfl, rfl⟩
    · rw [if_neg (fun h => c1 h.1)] at hf
      have c1n : (r.act != 2) = true := by simpa using c1
      (repeat (first
    | refine RX_seq ?_
    | refine RX_block ?_
    | ((first | refine RX_reg ?_ | refine RX_cond' ?_ | refine RX_draw0 ?_ | refine RX_draw rfl ?_ | refine RX_skip ?_ | refine RX_gfrz ?_ | refine RX_exit ?_ | refine RX_ret ?_); try (simp only [go_sem, Nat.max_zero, List.isEmpty_cons, Int.reduceToNat, Nat.reducePow, Int.reduceEq, Int.reduceNe, Int.reduceLT, Int.reduceLE, Nat.reduceAdd, Nat.reduceLeDiff, ↓reduceIte, Nat.reduceLT, Nat.reduceMul, Nat.reduceSub, reduceCtorEq, frzLoc, rowCells, vAppM, beq_iff_eq, bne_iff_ne, bne_self_eq_false, beq_self_eq_true, beq_true, beq_false, I, B, w, vf210_res, vf210_keep, h1, hrow, c1n, List.length_map, hwi, vStr]))))
      exact next hf _ ⟨rfl, rfl, rfl, rfl, rfl, rfl⟩
end Go.Proofs.YtknbgkfojmedpaaGreat
namespace Go.Proofs.YtknbgkfojmedpaaGreat
open Go.VM
end Go.Proofs.YtknbgkfojmedpaaGreat
set_option maxRecDepth 100000
namespace Go.Proofs.YtknbgkfojmedpaaGreat
open Go.VM
abbrev nR (n : Int) : List D := [I 1, I n, .sl []]
abbrev goldS : D := .lit (.string ⟨#[103, 111, 108, 100]⟩)
def A37 : Orc := fun f _ _ => match Nat.beq f 256 with
  | true => some ⟨.d (I 0), [], [], 0⟩
  | false => none
theorem u64_in {n : Int} (h1 : 0 ≤ n) (h2 : n ≤ 18446744073709551615) : IntKind.u64.wrap n = n := IntWalk.u64_in n ⟨h1, h2⟩
theorem fam_in {x : Bx} (h : x.ok) : 0 ≤ x.h ∧ x.h ≤ 2305843009213693952 := by rcases h.fam with ⟨_, h⟩ | ⟨_, h⟩ <;> omega
theorem k37g (f h a0 b0 a1 b1 p0 p1 l0 l1 s0 s1 : Int) (h94 : CV VP 256 [.agg [.d (I f), .d (U (IntKind.u64.wrap h)), .d (U (IntKind.u64.wrap a0)), .d (I f), .d (U (IntKind.u64.wrap h)), .d (U (IntKind.u64.wrap b0)), .d (I f), .d (U (IntKind.u64.wrap h)), .d (U (IntKind.u64.wrap a1)), .d (I f), .d (U (IntKind.u64.wrap h)), .d (U (IntKind.u64.wrap b1)), .d (I p0), .d (I p1), .d (I l0), .d (I l1), .d (I s0), .d (I s1)]] [] = some ⟨.d (I 0), [], [], 0⟩) :
    CV VP 235 [.d (.sl [nR f, nR h, nR a0, nR f, nR h, nR b0, nR f, nR h, nR a1, nR f, nR h, nR b1, nR p0, nR p1, nR l0, nR l1, nR s0, nR s1, nR 103, nR 111, nR 108, nR 100])] [] = some ⟨.tup [.agg [.d (I f), .d (U (IntKind.u64.wrap h)), .d (U (IntKind.u64.wrap a0)), .d (I f), .d (U (IntKind.u64.wrap h)), .d (U (IntKind.u64.wrap b0)), .d (I f), .d (U (IntKind.u64.wrap h)), .d (U (IntKind.u64.wrap a1)), .d (I f), .d (U (IntKind.u64.wrap h)), .d (U (IntKind.u64.wrap b1)), .d (I p0), .d (I p1), .d (I l0), .d (I l1), .d (I s0), .d (I s1)], .d (.lit (.string ⟨#[103, 111, 108, 100]⟩)), .d (B true)], [], [], 0⟩ :=
  CV_R (cA_ok vft_ok A37 400 60) 400 [(31, true), (15, true), (32, true), (15, true), (32, true), (15, true), (32, true), (15, true)] [] rfl rfl (ob := [(prB (CV VP 256 [.agg [.d (I f), .d (U (IntKind.u64.wrap h)), .d (U (IntKind.u64.wrap a0)), .d (I f), .d (U (IntKind.u64.wrap h)), .d (U (IntKind.u64.wrap b0)), .d (I f), .d (U (IntKind.u64.wrap h)), .d (U (IntKind.u64.wrap a1)), .d (I f), .d (U (IntKind.u64.wrap h)), .d (U (IntKind.u64.wrap b1)), .d (I p0), .d (I p1), .d (I l0), .d (I l1), .d (I s0), .d (I s1)]] [] = some ⟨.d (I 0), [], [], 0⟩), true)]) (by kernel_rfl) (.cons (prB_of h94) .nil)
theorem h37g (x : Bx) (ho : x.ok) (hf : x.fine) : CV VP 235 [.d (.sl [nR x.f, nR x.h, nR x.a0, nR x.f, nR x.h, nR x.b0, nR x.f, nR x.h, nR x.a1, nR x.f, nR x.h, nR x.b1, nR x.p0, nR x.p1, nR x.l0, nR x.l1, nR x.r0, nR x.r1, nR 103, nR 111, nR 108, nR 100])] [] = some ⟨.tup [x.ag, .d (.lit (.string ⟨#[103, 111, 108, 100]⟩)), .d (B true)], [], [], 0⟩ := by
  obtain ⟨f1, f2⟩ := fam_in ho
  have h := k37g x.f x.h x.a0 x.b0 x.a1 x.b1 x.p0 x.p1 x.l0 x.l1 x.r0 x.r1
  have g0 := hf.a0
  have g1 := hf.b0
  have g2 := hf.a1
  have g3 := hf.b1
  have g4 := hf.ab0
  have g5 := hf.ab1
  rw [u64_in f1 (by omega), u64_in (n := x.a0) (by omega) (by omega), u64_in (n := x.b0) (by omega) (by omega), u64_in (n := x.a1) (by omega) (by omega), u64_in (n := x.b1) (by omega) (by omega)] at h
  refine h ?_
  have h88 := e88 x.f x.h x.a0 x.f x.h x.b0 x.f x.h x.a1 x.f x.h x.b1 x.p0 x.p1 x.l0 x.l1 x.r0 x.r1
  rw [chk_fine ho hf] at h88
  exact h88
def bytsR : List UInt8 → List (List D)
  | [] => []
  | b :: bs => nR (Int.ofNat b.toNat) :: bytsR bs
def bxP (f0 h0 a0 f1 h1 a1 f2 h2 a2 f3 h3 a3 p0 p1 l0 l1 r0 r1 : Int) (t : ByteArray) : V := .agg [.d (I 3), .d (I 0), .d (.sl (nR 11 :: nR f0 :: nR h0 :: nR a0 :: nR f1 :: nR h1 :: nR a1 :: nR f2 :: nR h2 :: nR a2 :: nR f3 :: nR h3 :: nR a3 :: nR p0 :: nR p1 :: nR l0 :: nR l1 :: nR r0 :: nR r1 :: bytsR t.data.toList))]
def Bx.beqB (m x : Bx) : Bool := m.f == x.f && (m.h == x.h && (m.a0 == x.a0 && (m.f == x.f && (m.h == x.h && (m.b0 == x.b0 && (m.f == x.f && (m.h == x.h && (m.a1 == x.a1 && (m.f == x.f && (m.h == x.h && (m.b1 == x.b1 && (m.p0 == x.p0 && (m.p1 == x.p1 && (m.l0 == x.l0 && (m.l1 == x.l1 && (m.r0 == x.r0 && m.r1 == x.r1))))))))))))))))
theorem Bx.beqB_iff {m x : Bx} : m.beqB x = true ↔ m = x := by
  obtain ⟨a1, a2, a3, a4, a5, a6, a7, a8, a9, a10, a11, a12⟩ := m
  obtain ⟨b1, b2, b3, b4, b5, b6, b7, b8, b9, b10, b11, b12⟩ := x
  simp only [Bx.beqB, Bool.and_eq_true, beq_iff_eq, Bx.mk.injEq]
  constructor
  · rintro ⟨h1, h2, h3, _, _, h4, _, _, h5, _, _, h6, h7, h8, h9, h10, h11, h12⟩
    exact ⟨h1, h2, h3, h4, h5, h6, h7, h8, h9, h10, h11, h12⟩
  · rintro ⟨h1, h2, h3, h4, h5, h6, h7, h8, h9, h10, h11, h12⟩
    exact ⟨h1, h2, h3, h1, h2, h4, h1, h2, h5, h1, h2, h6, h7, h8, h9, h10, h11, h12⟩
set_option maxHeartbeats 4000000 in
theorem e100t (x y : Bx) (hx : x.ok) (hy : y.ok) (hw : x.f = y.f ∧ x.over y) : CV VP 217 [x.ag, y.ag] [] = some ⟨.d (B ((x.meet y).beqB x)), [], [], 0⟩ := by
  have h92 := e92 x y hx hy
  unfold Bx.meetR at h92
  rw [if_pos hw] at h92
  unfold Bx.beqB
  refine CV_run (vf := vf217) rfl rfl ?_
  rw [vf217_start]
  (repeat (first
    | refine RX_seq ?_
    | refine RX_block ?_
    | ((first | refine RX_reg ?_ | refine RX_cond' ?_ | refine RX_draw0 ?_ | refine RX_draw rfl ?_ | refine RX_skip ?_ | refine RX_gfrz ?_ | refine RX_exit ?_ | refine RX_ret ?_); try (simp only [go_sem, Nat.max_zero, List.isEmpty_cons, Int.reduceToNat, Nat.reducePow, Int.reduceEq, Int.reduceNe, Int.reduceLT, Int.reduceLE, Nat.reduceAdd, Nat.reduceLeDiff, ↓reduceIte, Nat.reduceLT, Nat.reduceMul, Nat.reduceSub, reduceCtorEq, frzLoc, rowCells, vAppM, beq_iff_eq, bne_iff_ne, bne_self_eq_false, beq_self_eq_true, beq_true, beq_false, I, B, w, vf217_res, vf217_keep, h92, vCellsEq, vCellEq]))))
theorem e100f (x y : Bx) (hx : x.ok) (hy : y.ok) (hw : ¬ (x.f = y.f ∧ x.over y)) : CV VP 217 [x.ag, y.ag] [] = some ⟨.d (B false), [], [], 0⟩ := by
  have h92 := e92 x y hx hy
  unfold Bx.meetR at h92
  rw [if_neg hw] at h92
  refine CV_run (vf := vf217) rfl rfl ?_
  rw [vf217_start]
  (repeat (first
    | refine RX_seq ?_
    | refine RX_block ?_
    | ((first | refine RX_reg ?_ | refine RX_cond' ?_ | refine RX_draw0 ?_ | refine RX_draw rfl ?_ | refine RX_skip ?_ | refine RX_gfrz ?_ | refine RX_exit ?_ | refine RX_ret ?_); try (simp only [go_sem, Nat.max_zero, List.isEmpty_cons, Int.reduceToNat, Nat.reducePow, Int.reduceEq, Int.reduceNe, Int.reduceLT, Int.reduceLE, Nat.reduceAdd, Nat.reduceLeDiff, ↓reduceIte, Nat.reduceLT, Nat.reduceMul, Nat.reduceSub, reduceCtorEq, frzLoc, rowCells, vAppM, beq_iff_eq, bne_iff_ne, bne_self_eq_false, beq_self_eq_true, beq_true, beq_false, I, B, w, vf217_res, vf217_keep, h92, vCellsEq, vCellEq]))))
theorem h100 (x y : Bx) (hx : x.ok) (hy : y.ok) : CV VP 217 [x.ag, y.ag] [] = some ⟨.d (B (ansB VP 217 [x.ag, y.ag])), [], [], 0⟩ := by
  refine ansB_spec ?_
  by_cases hw : x.f = y.f ∧ x.over y
  · exact ⟨_, e100t x y hx hy hw⟩
  · exact ⟨_, e100f x y hx hy hw⟩
theorem ins_iff (x y : Bx) (hx : x.ok) (hy : y.ok) : ansB VP 217 [x.ag, y.ag] = true ↔ (x.f = y.f ∧ x.over y) ∧ x.meet y = x := by
  by_cases hw : x.f = y.f ∧ x.over y
  · rw [ansB_eq (e100t x y hx hy hw), Bx.beqB_iff]
    exact ⟨fun h => ⟨hw, h⟩, fun h => h.2⟩
  · rw [ansB_eq (e100f x y hx hy hw)]
    exact ⟨fun h => absurd h (by decide), fun h => absurd h.1 hw⟩
end Go.Proofs.YtknbgkfojmedpaaGreat
set_option maxRecDepth 100000
namespace Go.Proofs.YtknbgkfojmedpaaGreat
open Go.VM
theorem ruS_shape {l : List Int} (hB : Bytes l) {s : Int} (h0 : 0 ≤ s) (h1 : s ≤ 1) (k : Nat) : ∃ (pre : List Ru) (x : Bx) (more : List Bx) (tail : List Ru), (ruS l s k).1 = pre ++ [⟨2, gold, x :: more⟩] ++ tail ∧ pre.length ≤ 2 ∧ more.length ≤ 1 ∧
    (tail = [] ∨ tail = [⟨1, ⟨#[]⟩, [bypass]⟩]) ∧ x.ok ∧ x.fine := by
  have r := nxV_range hB (k := k) (n := 3) (by decide)
  unfold ruS goldF endF
  simp only
  generalize hp : drL (ruF l s) (nxV l k 3).toNat (nxA l k) = p
  have hlen : p.1.length ≤ 2 := by rw [← hp, drL_len]; omega
  split
  · have hb := bxF_both hB h0 h1 (nxA l p.2)
    refine ⟨p.1, _, [(bxF [] s 0).1], _, rfl, hlen, by simp, ?_, hb.1, hb.2⟩
    split
    · exact .inr rfl
    · exact .inl rfl
  · have hb := bxF_both bytes_nil h0 h1 0
    refine ⟨p.1, _, [], _, rfl, hlen, by simp, ?_, hb.1, hb.2⟩
    split
    · exact .inr rfl
    · exact .inl rfl
theorem Bx.swap_both {x : Bx} (ho : x.ok) (hf : x.fine) : x.swap.ok ∧ x.swap.fine :=
  ⟨⟨ho.fam, ho.p0, ho.p1, ho.r0, ho.r1, ho.l0, ho.l1⟩, ⟨hf.a1, hf.b1, hf.a0, hf.b0, hf.ab1, hf.ab0, hf.p0, hf.p01, hf.p1, hf.r01, hf.l01⟩⟩
end Go.Proofs.YtknbgkfojmedpaaGreat
set_option maxRecDepth 100000
namespace Go.Proofs.YtknbgkfojmedpaaGreat
open Go.VM
theorem k32g (f h a0 b0 a1 b1 p0 p1 l0 l1 s0 s1 : Int) : CV VP 234 [.agg [.d (I f), .d (U h), .d (U a0), .d (I f), .d (U h), .d (U b0), .d (I f), .d (U h), .d (U a1), .d (I f), .d (U h), .d (U b1), .d (I p0), .d (I p1), .d (I l0), .d (I l1), .d (I s0), .d (I s1)], .d goldS] [] =
    some ⟨.agg [.d (I 3), .d (I 0), .d (.sl [nR 11, nR f, nR (wF h), nR (wF a0), nR f, nR (wF h), nR (wF b0), nR f, nR (wF h), nR (wF a1), nR f, nR (wF h), nR (wF b1), nR p0, nR p1, nR l0, nR l1, nR s0, nR s1, nR 103, nR 111, nR 108, nR 100])], [], [], 0⟩ :=
  CV_R (C := cA VP vft.get noNat 400 60) (cA_ok vft_ok noNat 400 60) 400 [(1, true), (0, true), (3, true), (0, true), (3, true), (0, true), (3, true), (0, true)] [] rfl rfl (ob := []) (by kernel_rfl) .nil
theorem h32g (x : Bx) (ho : x.ok) (hf : x.fine) : CV VP 234 [x.ag, .d goldS] [] = some ⟨.agg [.d (I 3), .d (I 0), .d (.sl [nR 11, nR x.f, nR x.h, nR x.a0, nR x.f, nR x.h, nR x.b0, nR x.f, nR x.h, nR x.a1, nR x.f, nR x.h, nR x.b1, nR x.p0, nR x.p1, nR x.l0, nR x.l1, nR x.r0, nR x.r1, nR 103, nR 111, nR 108, nR 100])], [], [], 0⟩ := by
  obtain ⟨f1, f2⟩ := fam_in ho
  have g0 := hf.a0
  have g1 := hf.b0
  have g2 := hf.a1
  have g3 := hf.b1
  have g4 := hf.ab0
  have g5 := hf.ab1
  have h := k32g x.f x.h x.a0 x.b0 x.a1 x.b1 x.p0 x.p1 x.l0 x.l1 x.r0 x.r1
  rw [wF_in (n := x.h) (by omega) (by omega), wF_in (n := x.a0) (by omega) (by omega), wF_in (n := x.b0) (by omega) (by omega), wF_in (n := x.a1) (by omega) (by omega), wF_in (n := x.b1) (by omega) (by omega)] at h
  exact h
theorem tm_gold {r : Ru} (hf : r.fine) (h : (r.tm.toList == gold.toList) = true) : r.tm = gold := by
  rcases hf.act with ⟨_, h1 | h1⟩ | ⟨_, h1⟩
  · exact h1
  · rw [h1] at h; exact absurd h (by decide +kernel)
  · rw [h1] at h; exact absurd h (by decide +kernel)
theorem fbx_some {b m : Bx} : ∀ {xs : List Bx}, fbx b xs = some m → ∃ y ∈ xs, b.f = y.f ∧ b.over y ∧ m = b.meet y
  | [], h => by cases h
  | x :: xs, h => by
    rw [fbx] at h
    split at h
    · rename_i hc
      simp only [Option.some.injEq] at h
      exact ⟨x, List.mem_cons_self, hc.1, hc.2, h.symm⟩
    · obtain ⟨y, h1, h2⟩ := fbx_some h
      exact ⟨y, List.mem_cons_of_mem _ h1, h2⟩
theorem nar_some {b m : Bx} {t : ByteArray} {j : Nat} : ∀ {rs : List Ru} {i : Nat}, nar b t i rs = some (j, m) → ∃ r, i ≤ j ∧ rs[j - i]? = some r ∧ (r.tm.toList == t.toList) = true ∧ r.act = 2 ∧ fbx b r.bs = some m
  | [], i, h => by cases h
  | r :: rs, i, h => by
    rw [nar] at h
    split at h
    · rename_i hc
      split at h
      · rename_i m' hm
        simp only [Option.some.injEq, Prod.mk.injEq] at h
        obtain ⟨rfl, rfl⟩ := h
        exact ⟨r, Nat.le_refl _, by simp, hc.2, hc.1, hm⟩
      · obtain ⟨r', h1, h2, h3⟩ := nar_some h
        refine ⟨r', by omega, ?_, h3⟩
        rw [show j - i = (j - (i + 1)) + 1 by omega]
        simpa using h2
    · obtain ⟨r', h1, h2, h3⟩ := nar_some h
      refine ⟨r', by omega, ?_, h3⟩
      rw [show j - i = (j - (i + 1)) + 1 by omega]
      simpa using h2
theorem meet_fine {x y : Bx} (hx : x.ok) (fx : x.fine) (hy : y.ok) (fy : y.fine) (ho : x.over y) : (x.meet y).ok ∧ (x.meet y).fine := by
  have h1 := fx.a0
  have h2 := fx.b0
  have h3 := fx.a1
  have h4 := fx.b1
  have h5 := fy.a0
  have h6 := fy.b0
  have h7 := fy.a1
  have h8 := fy.b1
  have h9 := fx.p0
  have h10 := fx.p1
  have h11 := fy.p0
  have h12 := fy.p1
  unfold Bx.over at ho
  exact ⟨Bx.meet_ok hx hy, ⟨by simp only [Bx.meet]; omega, by simp only [Bx.meet]; omega, by simp only [Bx.meet]; omega, by simp only [Bx.meet]; omega, by simp only [Bx.meet]; omega, by simp only [Bx.meet]; omega, by simp only [Bx.meet]; omega, by simp only [Bx.meet]; omega, by simp only [Bx.meet]; omega, by simp only [Bx.meet]; omega, by simp only [Bx.meet]; omega⟩⟩
theorem ins_nar {x y : Bx} (hx : x.ok) (fx : x.fine) (hy : y.ok) (ho : x.swap.over y) : ansB VP 217 [(x.swap.meet y).swap.ag, x.ag] = true := by
  rw [ins_iff _ x (Bx.swap_ok (Bx.meet_ok (Bx.swap_ok hx) hy)) hx]
  have h1 := fx.ab0
  have h2 := fx.ab1
  have h3 := fx.p01
  have h4 := fx.l01
  have h5 := fx.r01
  obtain ⟨b1, b2, b3, b4, b5, b6, b7, b8, b9, b10, b11, b12⟩ := x
  obtain ⟨y1, y2, y3, y4, y5, y6, y7, y8, y9, y10, y11, y12⟩ := y
  simp only [Bx.over, Bx.swap, Bx.meet, Bx.mk.injEq, true_and] at *
  omega
end Go.Proofs.YtknbgkfojmedpaaGreat
namespace Go.Proofs.YtknbgkfojmedpaaGreat
open Go.VM
end Go.Proofs.YtknbgkfojmedpaaGreat
set_option maxRecDepth 100000
namespace Go.Proofs.YtknbgkfojmedpaaGreat
open Go.VM
end Go.Proofs.YtknbgkfojmedpaaGreat
set_option linter.unusedVariables false
set_option maxRecDepth 100000
set_option maxHeartbeats 4000000
namespace Go.Proofs.YtknbgkfojmedpaaGreat
open Go.VM
noncomputable def AR1 (R : List (List D)) (gk : Int) (Rl : List (List D)) (G G2 : D) (Rb SA DD : List (List D)) : Orc := fun f a b => match Nat.beq f 111 with
  | true => match b with
    | [_, .d (.lit (.int _ k))] :: bs => some ⟨.tup [.agg [.d (I 0), .d (I 1), .d (I 1), .d (I 2), .d (.sl Rl), .d G, .d (I 0), .d (I 2), .d (I 2), .d (I 1), .d (.sl []), .d (I 2), .d (I 2), .d (.sl []), .d (I 0), .d (.sl []), .d (.sl []), .d (.sl []), .d (.sl [])], .agg [.d (I 1), .d (I 0), .d (I 2), .d (I 1), .d (.sl Rb), .d G2, .d (I 0), .d (I 2), .d (I 2), .d (I 1048577), .d (.sl []), .d (I 2), .d (I 1048578), .d (.sl []), .d (I 0), .d (.sl []), .d (.sl []), .d (.sl []), .d (.sl [])]], [.d (.sl R), .d (I gk)] :: bs, [], 0⟩
    | _ => none
  | false => match Nat.beq f 129 with
    | true => some ⟨.tup [.agg [.d (I 0), .d (I 1), .d (I 1), .d (I 2), .d (.sl Rl), .d G, .d (I 0), .d (I 5), .d (I 2), .d (I 1), .d (.sl []), .d (I 2), .d (I 2), .d (.sl []), .d (I 0), .d (.sl []), .d (.sl SA), .sl 42 [] .full, .d (.sl [])], .d (.sl DD), .d (I 0)], [], [], 0⟩
    | false => none
abbrev y37_0 : List D := [I 3, I 0, .sl [[I 1, I 1, .sl []], [I 1, I 31, .sl []]]]
abbrev y37_1 : List D := [I 3, I 0, .sl [[I 1, I 2, .sl []], [I 1, I 31, .sl []], [I 4, I 0, .sl [[I 2, I 5, .sl []]]]]]
abbrev y37_2 : List D := [I 3, I 0, .sl [[I 1, I 3, .sl []], [I 2, I 4, .sl []]]]
abbrev y37_3 : List D := [I 6, I 8, .sl [[I 1, I 1003, .sl []], [I 1, I 1, .sl []]]]
abbrev y37_4 : List D := [I 6, I 8, .sl [[I 1, I 1003, .sl []], [I 1, I 2, .sl []]]]
abbrev y37_5 : List D := [I 3, I 0, .sl [[I 1, I 7, .sl []], y37_3, y37_4]]
abbrev y37_6 : List (List D) := [[I 1, I 34, .sl []], [I 1, I 1003, .sl []], [I 1, I 0, .sl []], [I 1, I 2, .sl []], [I 1, I 0, .sl []], [I 3, I 0, .sl [y37_0, y37_1, y37_2, y37_5]]]
abbrev y37_7 : List D := [I 3, I 0, .sl [[I 1, I 1, .sl []], [I 1, I 31, .sl []], [I 1, I 1024, .sl []]]]
abbrev y37_8 : List (List D) := [[I 1, I 34, .sl []], [I 1, I 1003, .sl []], [I 1, I 0, .sl []], [I 1, I 2, .sl []], [I 1, I 0, .sl []], [I 3, I 0, .sl [y37_7, y37_1, y37_2, y37_5]]]
abbrev y37_9 : List D := [I 3, I 0, .sl [[I 1, I 1, .sl []], [I 1, I 1024, .sl []], [I 1, I 31, .sl []]]]
abbrev y37_10 : List D := [I 3, I 0, .sl [[I 1, I 2, .sl []], [I 1, I 1024, .sl []], [I 4, I 0, .sl [[I 2, I 5, .sl []]]]]]
abbrev y37_11 : List (List D) := [[I 1, I 34, .sl []], [I 1, I 1003, .sl []], [I 1, I 0, .sl []], [I 1, I 2, .sl []], [I 1, I 0, .sl []], [I 3, I 0, .sl [y37_9, y37_10, y37_2, y37_5]]]
abbrev y37_12 : List D := [I 3, I 0, .sl [[I 1, I 1, .sl []], [I 1, I 1024, .sl []]]]
abbrev y37_13 : List (List D) := [[I 1, I 34, .sl []], [I 1, I 1003, .sl []], [I 1, I 0, .sl []], [I 1, I 2, .sl []], [I 1, I 0, .sl []], [I 3, I 0, .sl [y37_12, y37_10, y37_2, y37_5]]]
abbrev y37_14 : List (List D) := [[I 6, I 1, .sl [[I 2, I 4, .sl []], [I 2, I 1048580, .sl []], [I 5, I 0, .sl [[I 2, I 5, .sl []], [I 2, I 1048581, .sl []]]]]], [I 1, I 1003, .sl []], [I 1, I 2003, .sl []]]
abbrev y37_15 : List D := [I 4, I 0, .sl [[I 2, I 1048581, .sl []]]]
abbrev y37_16 : List D := [I 3, I 0, .sl [[I 1, I 3, .sl []], [I 2, I 1048580, .sl []]]]
abbrev y37_17 : List D := [I 3, I 0, .sl [[I 1, I 7, .sl []], y37_4, y37_3]]
abbrev y37_18 : List (List D) := [[I 1, I 34, .sl []], [I 1, I 1003, .sl []], [I 1, I 2003, .sl []], [I 1, I 1, .sl []], [I 1, I 0, .sl []], [I 3, I 0, .sl [y37_0, [I 3, I 0, .sl [[I 1, I 2, .sl []], [I 1, I 31, .sl []], y37_15]], y37_16, y37_17]]]
abbrev y37_19 : List (List D) := [[I 2003, I 1003, I 1, I 3, I 0, .sl y37_8, I 3, I 0, .sl y37_18, I 2, I 1048580, .sl [], I 2, I 4, .sl [], I 6, I 2, .sl y37_14, I 6, I 4, .sl y37_14, I 6, I 3, .sl y37_14, I 0, B false]]
abbrev y37_20 : List (List D) := [[I 6, I 1, .sl [[I 2, I 4, .sl []], [I 2, I 1048580, .sl []], [I 5, I 0, .sl [[I 2, I 6, .sl []], [I 2, I 1048581, .sl []]]]]], [I 1, I 1003, .sl []], [I 1, I 2003, .sl []]]
abbrev y37_21 : List (List D) := [[I 1, I 34, .sl []], [I 1, I 1003, .sl []], [I 1, I 0, .sl []], [I 1, I 2, .sl []], [I 1, I 0, .sl []], [I 3, I 0, .sl [y37_7, [I 3, I 0, .sl [[I 1, I 2, .sl []], [I 1, I 1024, .sl []], [I 4, I 0, .sl [[I 2, I 6, .sl []]]]]], y37_2, y37_5]]]
abbrev y37_22 : List (List D) := [[I 1, I 34, .sl []], [I 1, I 1003, .sl []], [I 1, I 2003, .sl []], [I 1, I 1, .sl []], [I 1, I 0, .sl []], [I 3, I 0, .sl [y37_12, [I 3, I 0, .sl [[I 1, I 2, .sl []], [I 1, I 1024, .sl []], y37_15]], y37_16, y37_17]]]
abbrev y37_23 : List (List D) := [[I 1, I 34, .sl []], [I 1, I 1003, .sl []], [I 1, I 0, .sl []], [I 1, I 2, .sl []], [I 1, I 0, .sl []], [I 3, I 0, .sl [y37_9, [I 3, I 0, .sl [[I 1, I 2, .sl []], [I 1, I 31, .sl []], [I 4, I 0, .sl [[I 2, I 6, .sl []]]]]], y37_2, y37_5]]]
abbrev saV0 (ri f h a0 b0 a1 b1 p0 p1 l0 l1 s0 s1 : Int) : List (List D) := [[I 1003, I 0, B true, I 1, I 1, I 2, I 0, I 0, .sl [], I 0, I 0, .sl [], I 0, I 0, .sl [], I 2, I 4, .sl [], I 0, I 0, .sl [], I 3, I 0, .sl y37_6, I 0, I 0, .sl [], I 1, I 0, I 1, I 0, I 3, I 0, .sl y37_6, I 2, I 1, I 2, I 2, I 4, .sl [], I 2, I 5, .sl [], I 0, I 0, I ri, I f, U h, U a0, I f, U h, U b0, I f, U h, U a1, I f, U h, U b1, I p0, I p1, I l0, I l1, I s0, I s1, I 0, I 0, .sl [], .sl [], I (-1), I 0, I 0, .sl [], I 0, I 0, I 0, I 0, I 0, B false, I 0, B false, I 0]]
abbrev ddV0 : List (List D) := [[I 1, I 2, I 3, I 0, .sl y37_6]]
abbrev saV1 (ri f h a0 b0 a1 b1 p0 p1 l0 l1 s0 s1 : Int) : List (List D) := [[I 1003, I 0, B true, I 1, I 1, I 2, I 0, I 0, .sl [], I 0, I 0, .sl [], I 0, I 0, .sl [], I 2, I 4, .sl [], I 0, I 0, .sl [], I 3, I 0, .sl y37_8, I 0, I 0, .sl [], I 1, I 0, I 1, I 0, I 3, I 0, .sl y37_8, I 2, I 1, I 2, I 2, I 4, .sl [], I 2, I 5, .sl [], I 0, I 0, I ri, I f, U h, U a0, I f, U h, U b0, I f, U h, U a1, I f, U h, U b1, I p0, I p1, I l0, I l1, I s0, I s1, I 0, I 0, .sl [], .sl [], I (-1), I 0, I 0, .sl [], I 0, I 0, I 0, I 0, I 0, B false, I 0, B false, I 0]]
abbrev ddV1 : List (List D) := [[I 1, I 2, I 3, I 0, .sl y37_8]]
abbrev saV2 (ri f h a0 b0 a1 b1 p0 p1 l0 l1 s0 s1 : Int) : List (List D) := [[I 1003, I 0, B true, I 1, I 1, I 2, I 0, I 0, .sl [], I 0, I 0, .sl [], I 0, I 0, .sl [], I 2, I 4, .sl [], I 0, I 0, .sl [], I 3, I 0, .sl y37_11, I 0, I 0, .sl [], I 1, I 0, I 1, I 0, I 3, I 0, .sl y37_11, I 2, I 1, I 2, I 2, I 4, .sl [], I 2, I 5, .sl [], I 0, I 0, I ri, I f, U h, U a0, I f, U h, U b0, I f, U h, U a1, I f, U h, U b1, I p0, I p1, I l0, I l1, I s0, I s1, I 0, I 0, .sl [], .sl [], I (-1), I 0, I 0, .sl [], I 0, I 0, I 0, I 0, I 0, B false, I 0, B false, I 0]]
abbrev ddV2 : List (List D) := [[I 1, I 2, I 3, I 0, .sl y37_11]]
abbrev saV3 (ri f h a0 b0 a1 b1 p0 p1 l0 l1 s0 s1 : Int) : List (List D) := [[I 1003, I 0, B true, I 1, I 1, I 2, I 0, I 0, .sl [], I 0, I 0, .sl [], I 0, I 0, .sl [], I 2, I 4, .sl [], I 0, I 0, .sl [], I 3, I 0, .sl y37_13, I 0, I 0, .sl [], I 1, I 0, I 1, I 0, I 3, I 0, .sl y37_13, I 2, I 1, I 2, I 2, I 4, .sl [], I 2, I 5, .sl [], I 0, I 0, I ri, I f, U h, U a0, I f, U h, U b0, I f, U h, U a1, I f, U h, U b1, I p0, I p1, I l0, I l1, I s0, I s1, I 0, I 0, .sl [], .sl [], I (-1), I 0, I 0, .sl [], I 0, I 0, I 0, I 0, I 0, B false, I 0, B false, I 0]]
abbrev ddV3 : List (List D) := [[I 1, I 2, I 3, I 0, .sl y37_13]]
abbrev jZ : List V := [.d (I 0), .d (I 0), .d (I 0), .d (I 0), .d (.sl []), .d (.sl []), .d (I 0), .d (I 0), .d (I 0), .d (I 0), .d (.sl []), .d (I 0), .d (I 0), .d (.sl []), .d (I 0), .d (.sl []), .d (.sl []), .d (.sl []), .d (.sl [])]
abbrev jA0 (Ra : List (List D)) (G : D) : List V := [.d (I 0), .d (I 1), .d (I 1), .d (I 2), .d (.sl Ra), .d G, .d (I 0), .d (I 2), .d (I 2), .d (I 1), .d (.sl []), .d (I 2), .d (I 2), .d (.sl []), .d (I 0), .d (.sl []), .d (.sl []), .d (.sl []), .d (.sl [])]
abbrev jA1 (Ra : List (List D)) (G : D) (SA : List (List D)) : List V := [.d (I 0), .d (I 1), .d (I 1), .d (I 2), .d (.sl Ra), .d G, .d (I 0), .d (I 5), .d (I 2), .d (I 1), .d (.sl []), .d (I 2), .d (I 2), .d (.sl []), .d (I 0), .d (.sl []), .d (.sl SA), .sl 42 [] .full, .d (.sl [])]
abbrev jB0 (Rb : List (List D)) (G : D) : List V := [.d (I 1), .d (I 0), .d (I 2), .d (I 1), .d (.sl Rb), .d G, .d (I 0), .d (I 2), .d (I 2), .d (I 1048577), .d (.sl []), .d (I 2), .d (I 1048578), .d (.sl []), .d (I 0), .d (.sl []), .d (.sl []), .d (.sl []), .d (.sl [])]
abbrev bxJ (f h a0 b0 a1 b1 p0 p1 l0 l1 s0 s1 : Int) : V := .agg [.d (I f), .d (U h), .d (U a0), .d (I f), .d (U h), .d (U b0), .d (I f), .d (U h), .d (U a1), .d (I f), .d (U h), .d (U b1), .d (I p0), .d (I p1), .d (I l0), .d (I l1), .d (I s0), .d (I s1)]
theorem eb_0 (Ra : List (List D)) (ri f h a0 b0 a1 b1 p0 p1 l0 l1 s0 s1 : Int) : CV VP 129 [.agg (jA0 Ra (.sl [[I 31]])), .d (I 2), .d (I ri), (bxJ f h a0 b0 a1 b1 p0 p1 l0 l1 s0 s1)] [] = some ⟨.tup [.agg (jA1 Ra (.sl [[I 31]]) (saV0 ri f h a0 b0 a1 b1 p0 p1 l0 l1 s0 s1)), .d (.sl ddV0), .d (I 0)], [], [], 0⟩ :=
  CV_R (cA_ok vft_ok noNat 400 60) 400 [] [] rfl rfl (ob := [((prB (([.d (I 0), .d (I 1), .d (I 1), .d (I 2), .d (.sl Ra), .d (.sl [[I 31]]), .d (I 0), .d (I 5), .d (I 2), .d (I 1), .d (.sl []), .d (I 2), .d (I 2), .d (.sl []), .d (I 0), .d (.sl []), .loc 7 0 1 81, .sl 42 [] .full, .d (.sl [])] : List V) = [.d (I 0), .d (I 1), .d (I 1), .d (I 2), .d (.sl Ra), .d (.sl [[I 31]]), .d (I 0), .d (I 5), .d (I 2), .d (I 1), .d (.sl []), .d (I 2), .d (I 2), .d (.sl []), .d (I 0), .d (.sl []), .loc 7 0 1 81, .sl 42 [] .full, .d (.sl [])])), true), ((prB (([.d (I 0), .d (I 1), .d (I 1), .d (I 2), .d (.sl Ra), .d (.sl [[I 31]]), .d (I 0), .d (I 5), .d (I 2), .d (I 1), .d (.sl []), .d (I 2), .d (I 2), .d (.sl []), .d (I 0), .d (.sl []), .loc 7 0 1 81, .sl 42 [] .full, .d (.sl [])] : List V) = [.d (I 0), .d (I 1), .d (I 1), .d (I 2), .d (.sl Ra), .d (.sl [[I 31]]), .d (I 0), .d (I 5), .d (I 2), .d (I 1), .d (.sl []), .d (I 2), .d (I 2), .d (.sl []), .d (I 0), .d (.sl []), .loc 7 0 1 81, .sl 42 [] .full, .d (.sl [])])), true)]) (by kernel_rfl) (.cons (prB_of rfl) <| .cons (prB_of rfl) <| .nil)
theorem eb_1 (Ra : List (List D)) (ri f h a0 b0 a1 b1 p0 p1 l0 l1 s0 s1 : Int) : CV VP 129 [.agg (jA0 Ra (.sl [[I 31], [I 1024]])), .d (I 2), .d (I ri), (bxJ f h a0 b0 a1 b1 p0 p1 l0 l1 s0 s1)] [] = some ⟨.tup [.agg (jA1 Ra (.sl [[I 31], [I 1024]]) (saV1 ri f h a0 b0 a1 b1 p0 p1 l0 l1 s0 s1)), .d (.sl ddV1), .d (I 0)], [], [], 0⟩ :=
  CV_R (cA_ok vft_ok noNat 400 60) 400 [] [] rfl rfl (ob := [((prB (([.d (I 0), .d (I 1), .d (I 1), .d (I 2), .d (.sl Ra), .d (.sl [[I 31], [I 1024]]), .d (I 0), .d (I 5), .d (I 2), .d (I 1), .d (.sl []), .d (I 2), .d (I 2), .d (.sl []), .d (I 0), .d (.sl []), .loc 7 0 1 81, .sl 42 [] .full, .d (.sl [])] : List V) = [.d (I 0), .d (I 1), .d (I 1), .d (I 2), .d (.sl Ra), .d (.sl [[I 31], [I 1024]]), .d (I 0), .d (I 5), .d (I 2), .d (I 1), .d (.sl []), .d (I 2), .d (I 2), .d (.sl []), .d (I 0), .d (.sl []), .loc 7 0 1 81, .sl 42 [] .full, .d (.sl [])])), true), ((prB (([.d (I 0), .d (I 1), .d (I 1), .d (I 2), .d (.sl Ra), .d (.sl [[I 31], [I 1024]]), .d (I 0), .d (I 5), .d (I 2), .d (I 1), .d (.sl []), .d (I 2), .d (I 2), .d (.sl []), .d (I 0), .d (.sl []), .loc 7 0 1 81, .sl 42 [] .full, .d (.sl [])] : List V) = [.d (I 0), .d (I 1), .d (I 1), .d (I 2), .d (.sl Ra), .d (.sl [[I 31], [I 1024]]), .d (I 0), .d (I 5), .d (I 2), .d (I 1), .d (.sl []), .d (I 2), .d (I 2), .d (.sl []), .d (I 0), .d (.sl []), .loc 7 0 1 81, .sl 42 [] .full, .d (.sl [])])), true)]) (by kernel_rfl) (.cons (prB_of rfl) <| .cons (prB_of rfl) <| .nil)
theorem eb_2 (Ra : List (List D)) (ri f h a0 b0 a1 b1 p0 p1 l0 l1 s0 s1 : Int) : CV VP 129 [.agg (jA0 Ra (.sl [[I 1024], [I 31]])), .d (I 2), .d (I ri), (bxJ f h a0 b0 a1 b1 p0 p1 l0 l1 s0 s1)] [] = some ⟨.tup [.agg (jA1 Ra (.sl [[I 1024], [I 31]]) (saV2 ri f h a0 b0 a1 b1 p0 p1 l0 l1 s0 s1)), .d (.sl ddV2), .d (I 0)], [], [], 0⟩ :=
  CV_R (cA_ok vft_ok noNat 400 60) 400 [] [] rfl rfl (ob := [((prB (([.d (I 0), .d (I 1), .d (I 1), .d (I 2), .d (.sl Ra), .d (.sl [[I 1024], [I 31]]), .d (I 0), .d (I 5), .d (I 2), .d (I 1), .d (.sl []), .d (I 2), .d (I 2), .d (.sl []), .d (I 0), .d (.sl []), .loc 7 0 1 81, .sl 42 [] .full, .d (.sl [])] : List V) = [.d (I 0), .d (I 1), .d (I 1), .d (I 2), .d (.sl Ra), .d (.sl [[I 1024], [I 31]]), .d (I 0), .d (I 5), .d (I 2), .d (I 1), .d (.sl []), .d (I 2), .d (I 2), .d (.sl []), .d (I 0), .d (.sl []), .loc 7 0 1 81, .sl 42 [] .full, .d (.sl [])])), true), ((prB (([.d (I 0), .d (I 1), .d (I 1), .d (I 2), .d (.sl Ra), .d (.sl [[I 1024], [I 31]]), .d (I 0), .d (I 5), .d (I 2), .d (I 1), .d (.sl []), .d (I 2), .d (I 2), .d (.sl []), .d (I 0), .d (.sl []), .loc 7 0 1 81, .sl 42 [] .full, .d (.sl [])] : List V) = [.d (I 0), .d (I 1), .d (I 1), .d (I 2), .d (.sl Ra), .d (.sl [[I 1024], [I 31]]), .d (I 0), .d (I 5), .d (I 2), .d (I 1), .d (.sl []), .d (I 2), .d (I 2), .d (.sl []), .d (I 0), .d (.sl []), .loc 7 0 1 81, .sl 42 [] .full, .d (.sl [])])), true)]) (by kernel_rfl) (.cons (prB_of rfl) <| .cons (prB_of rfl) <| .nil)
theorem eb_3 (Ra : List (List D)) (ri f h a0 b0 a1 b1 p0 p1 l0 l1 s0 s1 : Int) : CV VP 129 [.agg (jA0 Ra (.sl [[I 1024]])), .d (I 2), .d (I ri), (bxJ f h a0 b0 a1 b1 p0 p1 l0 l1 s0 s1)] [] = some ⟨.tup [.agg (jA1 Ra (.sl [[I 1024]]) (saV3 ri f h a0 b0 a1 b1 p0 p1 l0 l1 s0 s1)), .d (.sl ddV3), .d (I 0)], [], [], 0⟩ :=
  CV_R (cA_ok vft_ok noNat 400 60) 400 [] [] rfl rfl (ob := [((prB (([.d (I 0), .d (I 1), .d (I 1), .d (I 2), .d (.sl Ra), .d (.sl [[I 1024]]), .d (I 0), .d (I 5), .d (I 2), .d (I 1), .d (.sl []), .d (I 2), .d (I 2), .d (.sl []), .d (I 0), .d (.sl []), .loc 7 0 1 81, .sl 42 [] .full, .d (.sl [])] : List V) = [.d (I 0), .d (I 1), .d (I 1), .d (I 2), .d (.sl Ra), .d (.sl [[I 1024]]), .d (I 0), .d (I 5), .d (I 2), .d (I 1), .d (.sl []), .d (I 2), .d (I 2), .d (.sl []), .d (I 0), .d (.sl []), .loc 7 0 1 81, .sl 42 [] .full, .d (.sl [])])), true), ((prB (([.d (I 0), .d (I 1), .d (I 1), .d (I 2), .d (.sl Ra), .d (.sl [[I 1024]]), .d (I 0), .d (I 5), .d (I 2), .d (I 1), .d (.sl []), .d (I 2), .d (I 2), .d (.sl []), .d (I 0), .d (.sl []), .loc 7 0 1 81, .sl 42 [] .full, .d (.sl [])] : List V) = [.d (I 0), .d (I 1), .d (I 1), .d (I 2), .d (.sl Ra), .d (.sl [[I 1024]]), .d (I 0), .d (I 5), .d (I 2), .d (I 1), .d (.sl []), .d (I 2), .d (I 2), .d (.sl []), .d (I 0), .d (.sl []), .loc 7 0 1 81, .sl 42 [] .full, .d (.sl [])])), true)]) (by kernel_rfl) (.cons (prB_of rfl) <| .cons (prB_of rfl) <| .nil)
abbrev P111 (R Ra Rb : List (List D)) (gk k0 : Int) (G G2 : D) : Prop := CV VP 111 [.ptr 0 0] [[.d (.sl R), .d (I k0)], jZ, jZ] = some ⟨.tup [.agg (jA0 Ra G), .agg (jB0 Rb G2)], [[.d (.sl R), .d (I gk)], jZ, jZ], [], 0⟩
abbrev P129 (Ra : List (List D)) (ri f h a0 b0 a1 b1 p0 p1 l0 l1 s0 s1 : Int) (G : D) (SA DD : List (List D)) : Prop := CV VP 129 [.agg (jA0 Ra G), .d (I 2), .d (I ri), (bxJ f h a0 b0 a1 b1 p0 p1 l0 l1 s0 s1)] [] = some ⟨.tup [.agg (jA1 Ra G SA), .d (.sl DD), .d (I 0)], [], [], 0⟩
abbrev S37 (R : List (List D)) (k0 : Int) : St := ⟨.ptr 0 0 :: List.replicate 107 .any, [[.d (.sl R), .d (I k0)]], [], 0, 1, 0⟩
abbrev N37 (R Ra Rb : List (List D)) (gk : Int) (G G2 : D) (SA DD : List (List D)) (c : VCode) (Q : VExit → St → Prop) : Prop := ∀ st, Seg (keepK vf37K1 0) 108 [.ptr 1 0, .ptr 2 0, .ptr 3 0, .ptr 4 0, .d (.sl DD), .d (I 0)] [[.d (.sl R), .d (I gk)], jZ, jZ, jA1 Ra G SA, jB0 Rb G2] [] 0 1 st → RX VP c st Q
abbrev shA0 (f h a0 b0 a1 b1 p0 p1 l0 l1 s0 s1 : Int) (ro rp rq : List D) (rt0 rt1 : D) : List (List D) := [[I 2, .lit (.string ⟨#[103, 111, 108, 100]⟩), .sl [[I f, U h, U a0, I f, U h, U b0, I f, U h, U a1, I f, U h, U b1, I p0, I p1, I l0, I l1, I s0, I s1]]]]
theorem rA_0 (R : List (List D)) (gk k0 f h a0 b0 a1 b1 p0 p1 l0 l1 s0 s1 : Int) (G G2 : D) (Rb SA DD : List (List D)) (ro rp rq : List D) (rt0 rt1 : D)
    (H111 : P111 R (shA0 f h a0 b0 a1 b1 p0 p1 l0 l1 s0 s1 ro rp rq rt0 rt1) Rb gk k0 G G2) (H129 : P129 (shA0 f h a0 b0 a1 b1 p0 p1 l0 l1 s0 s1 ro rp rq rt0 rt1) 0 f h a0 b0 a1 b1 p0 p1 l0 l1 s0 s1 G SA DD) {c : VCode} {Q : VExit → St → Prop}
    (hnext : N37 R (shA0 f h a0 b0 a1 b1 p0 p1 l0 l1 s0 s1 ro rp rq rt0 rt1) Rb gk G G2 SA DD c Q) : RX VP (seqL ((flat vf37.body).take 6)) (S37 R k0) (thn VP c Q) :=
  RX_segK (cA_ok vft_ok (AR1 R gk (shA0 f h a0 b0 a1 b1 p0 p1 l0 l1 s0 s1 ro rp rq rt0 rt1) G G2 Rb SA DD) 400 60) 400 [] [] (ob := [(prB (P129 (shA0 f h a0 b0 a1 b1 p0 p1 l0 l1 s0 s1 ro rp rq rt0 rt1) 0 f h a0 b0 a1 b1 p0 p1 l0 l1 s0 s1 G SA DD), true), (prB (P111 R (shA0 f h a0 b0 a1 b1 p0 p1 l0 l1 s0 s1 ro rp rq rt0 rt1) Rb gk k0 G G2), true)]) (by kernel_rfl) (.cons (prB_of H129) <| .cons (prB_of H111) .nil) hnext
abbrev shA1 (f h a0 b0 a1 b1 p0 p1 l0 l1 s0 s1 : Int) (ro rp rq : List D) (rt0 rt1 : D) : List (List D) := [[I 2, .lit (.string ⟨#[103, 111, 108, 100]⟩), .sl [[I f, U h, U a0, I f, U h, U b0, I f, U h, U a1, I f, U h, U b1, I p0, I p1, I l0, I l1, I s0, I s1]]], [I 1, rt0, rt1]]
theorem rA_1 (R : List (List D)) (gk k0 f h a0 b0 a1 b1 p0 p1 l0 l1 s0 s1 : Int) (G G2 : D) (Rb SA DD : List (List D)) (ro rp rq : List D) (rt0 rt1 : D)
    (H111 : P111 R (shA1 f h a0 b0 a1 b1 p0 p1 l0 l1 s0 s1 ro rp rq rt0 rt1) Rb gk k0 G G2) (H129 : P129 (shA1 f h a0 b0 a1 b1 p0 p1 l0 l1 s0 s1 ro rp rq rt0 rt1) 0 f h a0 b0 a1 b1 p0 p1 l0 l1 s0 s1 G SA DD) {c : VCode} {Q : VExit → St → Prop}
    (hnext : N37 R (shA1 f h a0 b0 a1 b1 p0 p1 l0 l1 s0 s1 ro rp rq rt0 rt1) Rb gk G G2 SA DD c Q) : RX VP (seqL ((flat vf37.body).take 6)) (S37 R k0) (thn VP c Q) :=
  RX_segK (cA_ok vft_ok (AR1 R gk (shA1 f h a0 b0 a1 b1 p0 p1 l0 l1 s0 s1 ro rp rq rt0 rt1) G G2 Rb SA DD) 400 60) 400 [] [] (ob := [(prB (P129 (shA1 f h a0 b0 a1 b1 p0 p1 l0 l1 s0 s1 ro rp rq rt0 rt1) 0 f h a0 b0 a1 b1 p0 p1 l0 l1 s0 s1 G SA DD), true), (prB (P111 R (shA1 f h a0 b0 a1 b1 p0 p1 l0 l1 s0 s1 ro rp rq rt0 rt1) Rb gk k0 G G2), true)]) (by kernel_rfl) (.cons (prB_of H129) <| .cons (prB_of H111) .nil) hnext
abbrev shA2 (f h a0 b0 a1 b1 p0 p1 l0 l1 s0 s1 : Int) (ro rp rq : List D) (rt0 rt1 : D) : List (List D) := [[I 2, .lit (.string ⟨#[103, 111, 108, 100]⟩), .sl [[I f, U h, U a0, I f, U h, U b0, I f, U h, U a1, I f, U h, U b1, I p0, I p1, I l0, I l1, I s0, I s1], rq]]]
theorem rA_2 (R : List (List D)) (gk k0 f h a0 b0 a1 b1 p0 p1 l0 l1 s0 s1 : Int) (G G2 : D) (Rb SA DD : List (List D)) (ro rp rq : List D) (rt0 rt1 : D)
    (H111 : P111 R (shA2 f h a0 b0 a1 b1 p0 p1 l0 l1 s0 s1 ro rp rq rt0 rt1) Rb gk k0 G G2) (H129 : P129 (shA2 f h a0 b0 a1 b1 p0 p1 l0 l1 s0 s1 ro rp rq rt0 rt1) 0 f h a0 b0 a1 b1 p0 p1 l0 l1 s0 s1 G SA DD) {c : VCode} {Q : VExit → St → Prop}
    (hnext : N37 R (shA2 f h a0 b0 a1 b1 p0 p1 l0 l1 s0 s1 ro rp rq rt0 rt1) Rb gk G G2 SA DD c Q) : RX VP (seqL ((flat vf37.body).take 6)) (S37 R k0) (thn VP c Q) :=
  RX_segK (cA_ok vft_ok (AR1 R gk (shA2 f h a0 b0 a1 b1 p0 p1 l0 l1 s0 s1 ro rp rq rt0 rt1) G G2 Rb SA DD) 400 60) 400 [] [] (ob := [(prB (P129 (shA2 f h a0 b0 a1 b1 p0 p1 l0 l1 s0 s1 ro rp rq rt0 rt1) 0 f h a0 b0 a1 b1 p0 p1 l0 l1 s0 s1 G SA DD), true), (prB (P111 R (shA2 f h a0 b0 a1 b1 p0 p1 l0 l1 s0 s1 ro rp rq rt0 rt1) Rb gk k0 G G2), true)]) (by kernel_rfl) (.cons (prB_of H129) <| .cons (prB_of H111) .nil) hnext
abbrev shA3 (f h a0 b0 a1 b1 p0 p1 l0 l1 s0 s1 : Int) (ro rp rq : List D) (rt0 rt1 : D) : List (List D) := [[I 2, .lit (.string ⟨#[103, 111, 108, 100]⟩), .sl [[I f, U h, U a0, I f, U h, U b0, I f, U h, U a1, I f, U h, U b1, I p0, I p1, I l0, I l1, I s0, I s1], rq]], [I 1, rt0, rt1]]
theorem rA_3 (R : List (List D)) (gk k0 f h a0 b0 a1 b1 p0 p1 l0 l1 s0 s1 : Int) (G G2 : D) (Rb SA DD : List (List D)) (ro rp rq : List D) (rt0 rt1 : D)
    (H111 : P111 R (shA3 f h a0 b0 a1 b1 p0 p1 l0 l1 s0 s1 ro rp rq rt0 rt1) Rb gk k0 G G2) (H129 : P129 (shA3 f h a0 b0 a1 b1 p0 p1 l0 l1 s0 s1 ro rp rq rt0 rt1) 0 f h a0 b0 a1 b1 p0 p1 l0 l1 s0 s1 G SA DD) {c : VCode} {Q : VExit → St → Prop}
    (hnext : N37 R (shA3 f h a0 b0 a1 b1 p0 p1 l0 l1 s0 s1 ro rp rq rt0 rt1) Rb gk G G2 SA DD c Q) : RX VP (seqL ((flat vf37.body).take 6)) (S37 R k0) (thn VP c Q) :=
  RX_segK (cA_ok vft_ok (AR1 R gk (shA3 f h a0 b0 a1 b1 p0 p1 l0 l1 s0 s1 ro rp rq rt0 rt1) G G2 Rb SA DD) 400 60) 400 [] [] (ob := [(prB (P129 (shA3 f h a0 b0 a1 b1 p0 p1 l0 l1 s0 s1 ro rp rq rt0 rt1) 0 f h a0 b0 a1 b1 p0 p1 l0 l1 s0 s1 G SA DD), true), (prB (P111 R (shA3 f h a0 b0 a1 b1 p0 p1 l0 l1 s0 s1 ro rp rq rt0 rt1) Rb gk k0 G G2), true)]) (by kernel_rfl) (.cons (prB_of H129) <| .cons (prB_of H111) .nil) hnext
abbrev shA4 (f h a0 b0 a1 b1 p0 p1 l0 l1 s0 s1 : Int) (ro rp rq : List D) (rt0 rt1 : D) : List (List D) := [ro, [I 2, .lit (.string ⟨#[103, 111, 108, 100]⟩), .sl [[I f, U h, U a0, I f, U h, U b0, I f, U h, U a1, I f, U h, U b1, I p0, I p1, I l0, I l1, I s0, I s1]]]]
theorem rA_4 (R : List (List D)) (gk k0 f h a0 b0 a1 b1 p0 p1 l0 l1 s0 s1 : Int) (G G2 : D) (Rb SA DD : List (List D)) (ro rp rq : List D) (rt0 rt1 : D)
    (H111 : P111 R (shA4 f h a0 b0 a1 b1 p0 p1 l0 l1 s0 s1 ro rp rq rt0 rt1) Rb gk k0 G G2) (H129 : P129 (shA4 f h a0 b0 a1 b1 p0 p1 l0 l1 s0 s1 ro rp rq rt0 rt1) 1 f h a0 b0 a1 b1 p0 p1 l0 l1 s0 s1 G SA DD) {c : VCode} {Q : VExit → St → Prop}
    (hnext : N37 R (shA4 f h a0 b0 a1 b1 p0 p1 l0 l1 s0 s1 ro rp rq rt0 rt1) Rb gk G G2 SA DD c Q) : RX VP (seqL ((flat vf37.body).take 6)) (S37 R k0) (thn VP c Q) :=
  RX_segK (cA_ok vft_ok (AR1 R gk (shA4 f h a0 b0 a1 b1 p0 p1 l0 l1 s0 s1 ro rp rq rt0 rt1) G G2 Rb SA DD) 400 60) 400 [] [] (ob := [(prB (P129 (shA4 f h a0 b0 a1 b1 p0 p1 l0 l1 s0 s1 ro rp rq rt0 rt1) 1 f h a0 b0 a1 b1 p0 p1 l0 l1 s0 s1 G SA DD), true), (prB (P111 R (shA4 f h a0 b0 a1 b1 p0 p1 l0 l1 s0 s1 ro rp rq rt0 rt1) Rb gk k0 G G2), true)]) (by kernel_rfl) (.cons (prB_of H129) <| .cons (prB_of H111) .nil) hnext
abbrev shA5 (f h a0 b0 a1 b1 p0 p1 l0 l1 s0 s1 : Int) (ro rp rq : List D) (rt0 rt1 : D) : List (List D) := [ro, [I 2, .lit (.string ⟨#[103, 111, 108, 100]⟩), .sl [[I f, U h, U a0, I f, U h, U b0, I f, U h, U a1, I f, U h, U b1, I p0, I p1, I l0, I l1, I s0, I s1]]], [I 1, rt0, rt1]]
theorem rA_5 (R : List (List D)) (gk k0 f h a0 b0 a1 b1 p0 p1 l0 l1 s0 s1 : Int) (G G2 : D) (Rb SA DD : List (List D)) (ro rp rq : List D) (rt0 rt1 : D)
    (H111 : P111 R (shA5 f h a0 b0 a1 b1 p0 p1 l0 l1 s0 s1 ro rp rq rt0 rt1) Rb gk k0 G G2) (H129 : P129 (shA5 f h a0 b0 a1 b1 p0 p1 l0 l1 s0 s1 ro rp rq rt0 rt1) 1 f h a0 b0 a1 b1 p0 p1 l0 l1 s0 s1 G SA DD) {c : VCode} {Q : VExit → St → Prop}
    (hnext : N37 R (shA5 f h a0 b0 a1 b1 p0 p1 l0 l1 s0 s1 ro rp rq rt0 rt1) Rb gk G G2 SA DD c Q) : RX VP (seqL ((flat vf37.body).take 6)) (S37 R k0) (thn VP c Q) :=
  RX_segK (cA_ok vft_ok (AR1 R gk (shA5 f h a0 b0 a1 b1 p0 p1 l0 l1 s0 s1 ro rp rq rt0 rt1) G G2 Rb SA DD) 400 60) 400 [] [] (ob := [(prB (P129 (shA5 f h a0 b0 a1 b1 p0 p1 l0 l1 s0 s1 ro rp rq rt0 rt1) 1 f h a0 b0 a1 b1 p0 p1 l0 l1 s0 s1 G SA DD), true), (prB (P111 R (shA5 f h a0 b0 a1 b1 p0 p1 l0 l1 s0 s1 ro rp rq rt0 rt1) Rb gk k0 G G2), true)]) (by kernel_rfl) (.cons (prB_of H129) <| .cons (prB_of H111) .nil) hnext
abbrev shA6 (f h a0 b0 a1 b1 p0 p1 l0 l1 s0 s1 : Int) (ro rp rq : List D) (rt0 rt1 : D) : List (List D) := [ro, [I 2, .lit (.string ⟨#[103, 111, 108, 100]⟩), .sl [[I f, U h, U a0, I f, U h, U b0, I f, U h, U a1, I f, U h, U b1, I p0, I p1, I l0, I l1, I s0, I s1], rq]]]
theorem rA_6 (R : List (List D)) (gk k0 f h a0 b0 a1 b1 p0 p1 l0 l1 s0 s1 : Int) (G G2 : D) (Rb SA DD : List (List D)) (ro rp rq : List D) (rt0 rt1 : D)
    (H111 : P111 R (shA6 f h a0 b0 a1 b1 p0 p1 l0 l1 s0 s1 ro rp rq rt0 rt1) Rb gk k0 G G2) (H129 : P129 (shA6 f h a0 b0 a1 b1 p0 p1 l0 l1 s0 s1 ro rp rq rt0 rt1) 1 f h a0 b0 a1 b1 p0 p1 l0 l1 s0 s1 G SA DD) {c : VCode} {Q : VExit → St → Prop}
    (hnext : N37 R (shA6 f h a0 b0 a1 b1 p0 p1 l0 l1 s0 s1 ro rp rq rt0 rt1) Rb gk G G2 SA DD c Q) : RX VP (seqL ((flat vf37.body).take 6)) (S37 R k0) (thn VP c Q) :=
  RX_segK (cA_ok vft_ok (AR1 R gk (shA6 f h a0 b0 a1 b1 p0 p1 l0 l1 s0 s1 ro rp rq rt0 rt1) G G2 Rb SA DD) 400 60) 400 [] [] (ob := [(prB (P129 (shA6 f h a0 b0 a1 b1 p0 p1 l0 l1 s0 s1 ro rp rq rt0 rt1) 1 f h a0 b0 a1 b1 p0 p1 l0 l1 s0 s1 G SA DD), true), (prB (P111 R (shA6 f h a0 b0 a1 b1 p0 p1 l0 l1 s0 s1 ro rp rq rt0 rt1) Rb gk k0 G G2), true)]) (by kernel_rfl) (.cons (prB_of H129) <| .cons (prB_of H111) .nil) hnext
abbrev shA7 (f h a0 b0 a1 b1 p0 p1 l0 l1 s0 s1 : Int) (ro rp rq : List D) (rt0 rt1 : D) : List (List D) := [ro, [I 2, .lit (.string ⟨#[103, 111, 108, 100]⟩), .sl [[I f, U h, U a0, I f, U h, U b0, I f, U h, U a1, I f, U h, U b1, I p0, I p1, I l0, I l1, I s0, I s1], rq]], [I 1, rt0, rt1]]
theorem rA_7 (R : List (List D)) (gk k0 f h a0 b0 a1 b1 p0 p1 l0 l1 s0 s1 : Int) (G G2 : D) (Rb SA DD : List (List D)) (ro rp rq : List D) (rt0 rt1 : D)
    (H111 : P111 R (shA7 f h a0 b0 a1 b1 p0 p1 l0 l1 s0 s1 ro rp rq rt0 rt1) Rb gk k0 G G2) (H129 : P129 (shA7 f h a0 b0 a1 b1 p0 p1 l0 l1 s0 s1 ro rp rq rt0 rt1) 1 f h a0 b0 a1 b1 p0 p1 l0 l1 s0 s1 G SA DD) {c : VCode} {Q : VExit → St → Prop}
    (hnext : N37 R (shA7 f h a0 b0 a1 b1 p0 p1 l0 l1 s0 s1 ro rp rq rt0 rt1) Rb gk G G2 SA DD c Q) : RX VP (seqL ((flat vf37.body).take 6)) (S37 R k0) (thn VP c Q) :=
  RX_segK (cA_ok vft_ok (AR1 R gk (shA7 f h a0 b0 a1 b1 p0 p1 l0 l1 s0 s1 ro rp rq rt0 rt1) G G2 Rb SA DD) 400 60) 400 [] [] (ob := [(prB (P129 (shA7 f h a0 b0 a1 b1 p0 p1 l0 l1 s0 s1 ro rp rq rt0 rt1) 1 f h a0 b0 a1 b1 p0 p1 l0 l1 s0 s1 G SA DD), true), (prB (P111 R (shA7 f h a0 b0 a1 b1 p0 p1 l0 l1 s0 s1 ro rp rq rt0 rt1) Rb gk k0 G G2), true)]) (by kernel_rfl) (.cons (prB_of H129) <| .cons (prB_of H111) .nil) hnext
abbrev shA8 (f h a0 b0 a1 b1 p0 p1 l0 l1 s0 s1 : Int) (ro rp rq : List D) (rt0 rt1 : D) : List (List D) := [ro, rp, [I 2, .lit (.string ⟨#[103, 111, 108, 100]⟩), .sl [[I f, U h, U a0, I f, U h, U b0, I f, U h, U a1, I f, U h, U b1, I p0, I p1, I l0, I l1, I s0, I s1]]]]
theorem rA_8 (R : List (List D)) (gk k0 f h a0 b0 a1 b1 p0 p1 l0 l1 s0 s1 : Int) (G G2 : D) (Rb SA DD : List (List D)) (ro rp rq : List D) (rt0 rt1 : D)
    (H111 : P111 R (shA8 f h a0 b0 a1 b1 p0 p1 l0 l1 s0 s1 ro rp rq rt0 rt1) Rb gk k0 G G2) (H129 : P129 (shA8 f h a0 b0 a1 b1 p0 p1 l0 l1 s0 s1 ro rp rq rt0 rt1) 2 f h a0 b0 a1 b1 p0 p1 l0 l1 s0 s1 G SA DD) {c : VCode} {Q : VExit → St → Prop}
    (hnext : N37 R (shA8 f h a0 b0 a1 b1 p0 p1 l0 l1 s0 s1 ro rp rq rt0 rt1) Rb gk G G2 SA DD c Q) : RX VP (seqL ((flat vf37.body).take 6)) (S37 R k0) (thn VP c Q) :=
  RX_segK (cA_ok vft_ok (AR1 R gk (shA8 f h a0 b0 a1 b1 p0 p1 l0 l1 s0 s1 ro rp rq rt0 rt1) G G2 Rb SA DD) 400 60) 400 [] [] (ob := [(prB (P129 (shA8 f h a0 b0 a1 b1 p0 p1 l0 l1 s0 s1 ro rp rq rt0 rt1) 2 f h a0 b0 a1 b1 p0 p1 l0 l1 s0 s1 G SA DD), true), (prB (P111 R (shA8 f h a0 b0 a1 b1 p0 p1 l0 l1 s0 s1 ro rp rq rt0 rt1) Rb gk k0 G G2), true)]) (by kernel_rfl) (.cons (prB_of H129) <| .cons (prB_of H111) .nil) hnext
abbrev shA9 (f h a0 b0 a1 b1 p0 p1 l0 l1 s0 s1 : Int) (ro rp rq : List D) (rt0 rt1 : D) : List (List D) := [ro, rp, [I 2, .lit (.string ⟨#[103, 111, 108, 100]⟩), .sl [[I f, U h, U a0, I f, U h, U b0, I f, U h, U a1, I f, U h, U b1, I p0, I p1, I l0, I l1, I s0, I s1]]], [I 1, rt0, rt1]]
theorem rA_9 (R : List (List D)) (gk k0 f h a0 b0 a1 b1 p0 p1 l0 l1 s0 s1 : Int) (G G2 : D) (Rb SA DD : List (List D)) (ro rp rq : List D) (rt0 rt1 : D)
    (H111 : P111 R (shA9 f h a0 b0 a1 b1 p0 p1 l0 l1 s0 s1 ro rp rq rt0 rt1) Rb gk k0 G G2) (H129 : P129 (shA9 f h a0 b0 a1 b1 p0 p1 l0 l1 s0 s1 ro rp rq rt0 rt1) 2 f h a0 b0 a1 b1 p0 p1 l0 l1 s0 s1 G SA DD) {c : VCode} {Q : VExit → St → Prop}
    (hnext : N37 R (shA9 f h a0 b0 a1 b1 p0 p1 l0 l1 s0 s1 ro rp rq rt0 rt1) Rb gk G G2 SA DD c Q) : RX VP (seqL ((flat vf37.body).take 6)) (S37 R k0) (thn VP c Q) :=
  RX_segK (cA_ok vft_ok (AR1 R gk (shA9 f h a0 b0 a1 b1 p0 p1 l0 l1 s0 s1 ro rp rq rt0 rt1) G G2 Rb SA DD) 400 60) 400 [] [] (ob := [(prB (P129 (shA9 f h a0 b0 a1 b1 p0 p1 l0 l1 s0 s1 ro rp rq rt0 rt1) 2 f h a0 b0 a1 b1 p0 p1 l0 l1 s0 s1 G SA DD), true), (prB (P111 R (shA9 f h a0 b0 a1 b1 p0 p1 l0 l1 s0 s1 ro rp rq rt0 rt1) Rb gk k0 G G2), true)]) (by kernel_rfl) (.cons (prB_of H129) <| .cons (prB_of H111) .nil) hnext
abbrev shA10 (f h a0 b0 a1 b1 p0 p1 l0 l1 s0 s1 : Int) (ro rp rq : List D) (rt0 rt1 : D) : List (List D) := [ro, rp, [I 2, .lit (.string ⟨#[103, 111, 108, 100]⟩), .sl [[I f, U h, U a0, I f, U h, U b0, I f, U h, U a1, I f, U h, U b1, I p0, I p1, I l0, I l1, I s0, I s1], rq]]]
theorem rA_10 (R : List (List D)) (gk k0 f h a0 b0 a1 b1 p0 p1 l0 l1 s0 s1 : Int) (G G2 : D) (Rb SA DD : List (List D)) (ro rp rq : List D) (rt0 rt1 : D)
    (H111 : P111 R (shA10 f h a0 b0 a1 b1 p0 p1 l0 l1 s0 s1 ro rp rq rt0 rt1) Rb gk k0 G G2) (H129 : P129 (shA10 f h a0 b0 a1 b1 p0 p1 l0 l1 s0 s1 ro rp rq rt0 rt1) 2 f h a0 b0 a1 b1 p0 p1 l0 l1 s0 s1 G SA DD) {c : VCode} {Q : VExit → St → Prop}
    (hnext : N37 R (shA10 f h a0 b0 a1 b1 p0 p1 l0 l1 s0 s1 ro rp rq rt0 rt1) Rb gk G G2 SA DD c Q) : RX VP (seqL ((flat vf37.body).take 6)) (S37 R k0) (thn VP c Q) :=
  RX_segK (cA_ok vft_ok (AR1 R gk (shA10 f h a0 b0 a1 b1 p0 p1 l0 l1 s0 s1 ro rp rq rt0 rt1) G G2 Rb SA DD) 400 60) 400 [] [] (ob := [(prB (P129 (shA10 f h a0 b0 a1 b1 p0 p1 l0 l1 s0 s1 ro rp rq rt0 rt1) 2 f h a0 b0 a1 b1 p0 p1 l0 l1 s0 s1 G SA DD), true), (prB (P111 R (shA10 f h a0 b0 a1 b1 p0 p1 l0 l1 s0 s1 ro rp rq rt0 rt1) Rb gk k0 G G2), true)]) (by kernel_rfl) (.cons (prB_of H129) <| .cons (prB_of H111) .nil) hnext
abbrev shA11 (f h a0 b0 a1 b1 p0 p1 l0 l1 s0 s1 : Int) (ro rp rq : List D) (rt0 rt1 : D) : List (List D) := [ro, rp, [I 2, .lit (.string ⟨#[103, 111, 108, 100]⟩), .sl [[I f, U h, U a0, I f, U h, U b0, I f, U h, U a1, I f, U h, U b1, I p0, I p1, I l0, I l1, I s0, I s1], rq]], [I 1, rt0, rt1]]
theorem rA_11 (R : List (List D)) (gk k0 f h a0 b0 a1 b1 p0 p1 l0 l1 s0 s1 : Int) (G G2 : D) (Rb SA DD : List (List D)) (ro rp rq : List D) (rt0 rt1 : D)
    (H111 : P111 R (shA11 f h a0 b0 a1 b1 p0 p1 l0 l1 s0 s1 ro rp rq rt0 rt1) Rb gk k0 G G2) (H129 : P129 (shA11 f h a0 b0 a1 b1 p0 p1 l0 l1 s0 s1 ro rp rq rt0 rt1) 2 f h a0 b0 a1 b1 p0 p1 l0 l1 s0 s1 G SA DD) {c : VCode} {Q : VExit → St → Prop}
    (hnext : N37 R (shA11 f h a0 b0 a1 b1 p0 p1 l0 l1 s0 s1 ro rp rq rt0 rt1) Rb gk G G2 SA DD c Q) : RX VP (seqL ((flat vf37.body).take 6)) (S37 R k0) (thn VP c Q) :=
  RX_segK (cA_ok vft_ok (AR1 R gk (shA11 f h a0 b0 a1 b1 p0 p1 l0 l1 s0 s1 ro rp rq rt0 rt1) G G2 Rb SA DD) 400 60) 400 [] [] (ob := [(prB (P129 (shA11 f h a0 b0 a1 b1 p0 p1 l0 l1 s0 s1 ro rp rq rt0 rt1) 2 f h a0 b0 a1 b1 p0 p1 l0 l1 s0 s1 G SA DD), true), (prB (P111 R (shA11 f h a0 b0 a1 b1 p0 p1 l0 l1 s0 s1 ro rp rq rt0 rt1) Rb gk k0 G G2), true)]) (by kernel_rfl) (.cons (prB_of H129) <| .cons (prB_of H111) .nil) hnext
abbrev rdV0 (Ra Rb : List (List D)) (ri f h a0 b0 a1 b1 p0 p1 l0 l1 s0 s1 : Int) : V := .tup [.agg [.d (I 0), .d (I 1), .d (I 1), .d (I 2), .d (.sl Ra), .d (.sl [[I 31]]), .d (I 0), .d (I 5), .d (I 2), .d (I 1), .d (.sl []), .d (I 2), .d (I 2), .d (.sl []), .d (I 0), .d (.sl []), .d (.sl [[I 1003, I 2003, B true, I 1, I 1, I 2, I 6, I 2, .sl y37_14, I 6, I 3, .sl y37_14, I 6, I 4, .sl y37_14, I 2, I 4, .sl [], I 2, I 1048580, .sl [], I 3, I 0, .sl y37_6, I 3, I 0, .sl y37_18, I 1, I 0, I 1, I 0, I 3, I 0, .sl y37_6, I 2, I 1, I 2, I 2, I 4, .sl [], I 2, I 5, .sl [], I 0, I 0, I ri, I f, U h, U a0, I f, U h, U b0, I f, U h, U a1, I f, U h, U b1, I p0, I p1, I l0, I l1, I s0, I s1, I 0, I 0, .sl [], .sl [], I (-1), I 0, I 0, .sl [], I 0, I 0, I 0, I 0, I 0, B false, I 0, B false, I 0]]), .sl 42 [] .full, .d (.sl [])], .agg [.d (I 1), .d (I 0), .d (I 2), .d (I 1), .d (.sl Rb), .d (.sl [[I 31]]), .d (I 0), .d (I 5), .d (I 2), .d (I 1048577), .d (.sl []), .d (I 2), .d (I 1048578), .d (.sl []), .d (I 0), .d (.sl [[I 2003, I 1003, I 1, I 3, I 0, .sl y37_6, I 3, I 0, .sl y37_18, I 2, I 1048580, .sl [], I 2, I 4, .sl [], I 6, I 2, .sl y37_14, I 6, I 4, .sl y37_14, I 6, I 3, .sl y37_14, I 0, B false]]), .sl 81 [] .full, .sl 42 [] .full, .d (.sl [])], .d (I 1003), .d (B true)]
theorem rB_0 (R Ra Rb : List (List D)) (gk ri f h a0 b0 a1 b1 p0 p1 l0 l1 s0 s1 : Int) : RX VP (seqL ((flat vf37.body).drop 6)) ⟨keepT vf37K1 [.ptr 1 0, .ptr 2 0, .ptr 3 0, .ptr 4 0, .d (.sl ddV0), .d (I 0)], [[.d (.sl R), .d (I gk)], jZ, jZ, jA1 Ra (.sl [[I 31]]) (saV0 ri f h a0 b0 a1 b1 p0 p1 l0 l1 s0 s1), jB0 Rb (.sl [[I 31]])], [], 0, 1, 0⟩ (retQ vf37 1 ⟨rdV0 Ra Rb ri f h a0 b0 a1 b1 p0 p1 l0 l1 s0 s1, [[.d (.sl R), .d (I gk)]], [], 0⟩) :=
  RX_end (cA_ok vft_ok noNat 400 60) 400 [] [] (ob := []) (by kernel_rfl) .nil
abbrev rdV1 (Ra Rb : List (List D)) (ri f h a0 b0 a1 b1 p0 p1 l0 l1 s0 s1 : Int) : V := .tup [.agg [.d (I 0), .d (I 1), .d (I 1), .d (I 2), .d (.sl Ra), .d (.sl [[I 31], [I 1024]]), .d (I 0), .d (I 5), .d (I 2), .d (I 1), .d (.sl []), .d (I 2), .d (I 2), .d (.sl []), .d (I 0), .d (.sl []), .d (.sl [[I 1003, I 2003, B true, I 1, I 1, I 2, I 6, I 2, .sl y37_14, I 6, I 3, .sl y37_14, I 6, I 4, .sl y37_14, I 2, I 4, .sl [], I 2, I 1048580, .sl [], I 3, I 0, .sl y37_8, I 3, I 0, .sl y37_18, I 1, I 0, I 1, I 0, I 3, I 0, .sl y37_8, I 2, I 1, I 2, I 2, I 4, .sl [], I 2, I 5, .sl [], I 0, I 0, I ri, I f, U h, U a0, I f, U h, U b0, I f, U h, U a1, I f, U h, U b1, I p0, I p1, I l0, I l1, I s0, I s1, I 0, I 0, .sl [], .sl [], I (-1), I 0, I 0, .sl [], I 0, I 0, I 0, I 0, I 0, B false, I 0, B false, I 0]]), .sl 42 [] .full, .d (.sl [])], .agg [.d (I 1), .d (I 0), .d (I 2), .d (I 1), .d (.sl Rb), .d (.sl [[I 31], [I 1024]]), .d (I 0), .d (I 5), .d (I 2), .d (I 1048577), .d (.sl []), .d (I 2), .d (I 1048578), .d (.sl []), .d (I 0), .d (.sl y37_19), .sl 81 [] .full, .sl 42 [] .full, .d (.sl [])], .d (I 1003), .d (B true)]
theorem rB_1 (R Ra Rb : List (List D)) (gk ri f h a0 b0 a1 b1 p0 p1 l0 l1 s0 s1 : Int) : RX VP (seqL ((flat vf37.body).drop 6)) ⟨keepT vf37K1 [.ptr 1 0, .ptr 2 0, .ptr 3 0, .ptr 4 0, .d (.sl ddV1), .d (I 0)], [[.d (.sl R), .d (I gk)], jZ, jZ, jA1 Ra (.sl [[I 31], [I 1024]]) (saV1 ri f h a0 b0 a1 b1 p0 p1 l0 l1 s0 s1), jB0 Rb (.sl [[I 31], [I 1024]])], [], 0, 1, 0⟩ (retQ vf37 1 ⟨rdV1 Ra Rb ri f h a0 b0 a1 b1 p0 p1 l0 l1 s0 s1, [[.d (.sl R), .d (I gk)]], [], 0⟩) :=
  RX_end (cA_ok vft_ok noNat 400 60) 400 [] [] (ob := []) (by kernel_rfl) .nil
abbrev rdV2 (Ra Rb : List (List D)) (ri f h a0 b0 a1 b1 p0 p1 l0 l1 s0 s1 : Int) : V := .tup [.agg [.d (I 0), .d (I 1), .d (I 1), .d (I 2), .d (.sl Ra), .d (.sl [[I 31], [I 1024]]), .d (I 0), .d (I 6), .d (I 2), .d (I 1), .d (.sl []), .d (I 2), .d (I 2), .d (.sl []), .d (I 0), .d (.sl []), .d (.sl [[I 1003, I 2003, B true, I 1, I 1, I 2, I 6, I 2, .sl y37_20, I 6, I 3, .sl y37_20, I 6, I 4, .sl y37_20, I 2, I 4, .sl [], I 2, I 1048580, .sl [], I 3, I 0, .sl y37_21, I 3, I 0, .sl y37_22, I 1, I 0, I 1, I 0, I 3, I 0, .sl y37_21, I 2, I 1, I 2, I 2, I 4, .sl [], I 2, I 6, .sl [], I 0, I 0, I ri, I f, U h, U a0, I f, U h, U b0, I f, U h, U a1, I f, U h, U b1, I p0, I p1, I l0, I l1, I s0, I s1, I 0, I 0, .sl [], .sl [], I (-1), I 0, I 0, .sl [], I 0, I 0, I 0, I 0, I 1, B false, I 0, B false, I 0]]), .sl 42 [] .full, .d (.sl [])], .agg [.d (I 1), .d (I 0), .d (I 2), .d (I 1), .d (.sl Rb), .d (.sl [[I 1024], [I 31]]), .d (I 0), .d (I 5), .d (I 2), .d (I 1048577), .d (.sl []), .d (I 2), .d (I 1048578), .d (.sl []), .d (I 0), .d (.sl [[I 2003, I 1003, I 1, I 3, I 0, .sl y37_21, I 3, I 0, .sl y37_22, I 2, I 1048580, .sl [], I 2, I 4, .sl [], I 6, I 2, .sl y37_20, I 6, I 4, .sl y37_20, I 6, I 3, .sl y37_20, I 0, B false]]), .sl 81 [] .full, .sl 42 [] .full, .d (.sl [])], .d (I 1003), .d (B true)]
theorem rB_2 (R Ra Rb : List (List D)) (gk ri f h a0 b0 a1 b1 p0 p1 l0 l1 s0 s1 : Int) : RX VP (seqL ((flat vf37.body).drop 6)) ⟨keepT vf37K1 [.ptr 1 0, .ptr 2 0, .ptr 3 0, .ptr 4 0, .d (.sl ddV1), .d (I 0)], [[.d (.sl R), .d (I gk)], jZ, jZ, jA1 Ra (.sl [[I 31], [I 1024]]) (saV1 ri f h a0 b0 a1 b1 p0 p1 l0 l1 s0 s1), jB0 Rb (.sl [[I 1024], [I 31]])], [], 0, 1, 0⟩ (retQ vf37 1 ⟨rdV2 Ra Rb ri f h a0 b0 a1 b1 p0 p1 l0 l1 s0 s1, [[.d (.sl R), .d (I gk)]], [], 0⟩) :=
  RX_end (cA_ok vft_ok noNat 400 60) 400 [] [] (ob := []) (by kernel_rfl) .nil
abbrev rdV3 (Ra Rb : List (List D)) (ri f h a0 b0 a1 b1 p0 p1 l0 l1 s0 s1 : Int) : V := .tup [.agg [.d (I 0), .d (I 1), .d (I 1), .d (I 2), .d (.sl Ra), .d (.sl [[I 1024], [I 31]]), .d (I 0), .d (I 6), .d (I 2), .d (I 1), .d (.sl []), .d (I 2), .d (I 2), .d (.sl []), .d (I 0), .d (.sl []), .d (.sl [[I 1003, I 2003, B true, I 1, I 1, I 2, I 6, I 2, .sl y37_20, I 6, I 3, .sl y37_20, I 6, I 4, .sl y37_20, I 2, I 4, .sl [], I 2, I 1048580, .sl [], I 3, I 0, .sl y37_23, I 3, I 0, .sl y37_18, I 1, I 0, I 1, I 0, I 3, I 0, .sl y37_23, I 2, I 1, I 2, I 2, I 4, .sl [], I 2, I 6, .sl [], I 0, I 0, I ri, I f, U h, U a0, I f, U h, U b0, I f, U h, U a1, I f, U h, U b1, I p0, I p1, I l0, I l1, I s0, I s1, I 0, I 0, .sl [], .sl [], I (-1), I 0, I 0, .sl [], I 0, I 0, I 0, I 0, I 1, B false, I 0, B false, I 0]]), .sl 42 [] .full, .d (.sl [])], .agg [.d (I 1), .d (I 0), .d (I 2), .d (I 1), .d (.sl Rb), .d (.sl [[I 31], [I 1024]]), .d (I 0), .d (I 5), .d (I 2), .d (I 1048577), .d (.sl []), .d (I 2), .d (I 1048578), .d (.sl []), .d (I 0), .d (.sl [[I 2003, I 1003, I 1, I 3, I 0, .sl y37_23, I 3, I 0, .sl y37_18, I 2, I 1048580, .sl [], I 2, I 4, .sl [], I 6, I 2, .sl y37_20, I 6, I 4, .sl y37_20, I 6, I 3, .sl y37_20, I 0, B false]]), .sl 81 [] .full, .sl 42 [] .full, .d (.sl [])], .d (I 1003), .d (B true)]
theorem rB_3 (R Ra Rb : List (List D)) (gk ri f h a0 b0 a1 b1 p0 p1 l0 l1 s0 s1 : Int) : RX VP (seqL ((flat vf37.body).drop 6)) ⟨keepT vf37K1 [.ptr 1 0, .ptr 2 0, .ptr 3 0, .ptr 4 0, .d (.sl ddV2), .d (I 0)], [[.d (.sl R), .d (I gk)], jZ, jZ, jA1 Ra (.sl [[I 1024], [I 31]]) (saV2 ri f h a0 b0 a1 b1 p0 p1 l0 l1 s0 s1), jB0 Rb (.sl [[I 31], [I 1024]])], [], 0, 1, 0⟩ (retQ vf37 1 ⟨rdV3 Ra Rb ri f h a0 b0 a1 b1 p0 p1 l0 l1 s0 s1, [[.d (.sl R), .d (I gk)]], [], 0⟩) :=
  RX_end (cA_ok vft_ok noNat 400 60) 400 [] [] (ob := []) (by kernel_rfl) .nil
abbrev rdV4 (Ra Rb : List (List D)) (ri f h a0 b0 a1 b1 p0 p1 l0 l1 s0 s1 : Int) : V := .tup [.agg [.d (I 0), .d (I 1), .d (I 1), .d (I 2), .d (.sl Ra), .d (.sl [[I 31], [I 1024]]), .d (I 0), .d (I 5), .d (I 2), .d (I 1), .d (.sl []), .d (I 2), .d (I 2), .d (.sl []), .d (I 0), .d (.sl []), .d (.sl [[I 1003, I 2003, B true, I 1, I 1, I 2, I 6, I 2, .sl y37_14, I 6, I 3, .sl y37_14, I 6, I 4, .sl y37_14, I 2, I 4, .sl [], I 2, I 1048580, .sl [], I 3, I 0, .sl y37_8, I 3, I 0, .sl y37_18, I 1, I 0, I 1, I 0, I 3, I 0, .sl y37_8, I 2, I 1, I 2, I 2, I 4, .sl [], I 2, I 5, .sl [], I 0, I 0, I ri, I f, U h, U a0, I f, U h, U b0, I f, U h, U a1, I f, U h, U b1, I p0, I p1, I l0, I l1, I s0, I s1, I 0, I 0, .sl [], .sl [], I (-1), I 0, I 0, .sl [], I 0, I 0, I 0, I 0, I 0, B false, I 0, B false, I 0]]), .sl 42 [] .full, .d (.sl [])], .agg [.d (I 1), .d (I 0), .d (I 2), .d (I 1), .d (.sl Rb), .d (.sl [[I 31]]), .d (I 0), .d (I 5), .d (I 2), .d (I 1048577), .d (.sl []), .d (I 2), .d (I 1048578), .d (.sl []), .d (I 0), .d (.sl y37_19), .sl 81 [] .full, .sl 42 [] .full, .d (.sl [])], .d (I 1003), .d (B true)]
theorem rB_4 (R Ra Rb : List (List D)) (gk ri f h a0 b0 a1 b1 p0 p1 l0 l1 s0 s1 : Int) : RX VP (seqL ((flat vf37.body).drop 6)) ⟨keepT vf37K1 [.ptr 1 0, .ptr 2 0, .ptr 3 0, .ptr 4 0, .d (.sl ddV1), .d (I 0)], [[.d (.sl R), .d (I gk)], jZ, jZ, jA1 Ra (.sl [[I 31], [I 1024]]) (saV1 ri f h a0 b0 a1 b1 p0 p1 l0 l1 s0 s1), jB0 Rb (.sl [[I 31]])], [], 0, 1, 0⟩ (retQ vf37 1 ⟨rdV4 Ra Rb ri f h a0 b0 a1 b1 p0 p1 l0 l1 s0 s1, [[.d (.sl R), .d (I gk)]], [], 0⟩) :=
  RX_end (cA_ok vft_ok noNat 400 60) 400 [] [] (ob := []) (by kernel_rfl) .nil
abbrev rdV5 (Ra Rb : List (List D)) (ri f h a0 b0 a1 b1 p0 p1 l0 l1 s0 s1 : Int) : V := .tup [.agg [.d (I 0), .d (I 1), .d (I 1), .d (I 2), .d (.sl Ra), .d (.sl [[I 1024]]), .d (I 0), .d (I 5), .d (I 2), .d (I 1), .d (.sl []), .d (I 2), .d (I 2), .d (.sl []), .d (I 0), .d (.sl []), .d (.sl [[I 1003, I 0, B true, I 1, I 1, I 2, I 0, I 0, .sl [], I 0, I 0, .sl [], I 0, I 0, .sl [], I 2, I 4, .sl [], I 0, I 0, .sl [], I 3, I 0, .sl y37_13, I 0, I 0, .sl [], I 1, I 0, I 1, I 0, I 3, I 0, .sl y37_13, I 2, I 1, I 2, I 2, I 4, .sl [], I 2, I 5, .sl [], I 0, I 0, I ri, I f, U h, U a0, I f, U h, U b0, I f, U h, U a1, I f, U h, U b1, I p0, I p1, I l0, I l1, I s0, I s1, I 0, I 0, .sl [], .sl [], I (-1), I 0, I 0, .sl [], I 0, I 0, I 0, I 0, I 0, B false, I 0, B false, I 0]]), .sl 42 [] .full, .d (.sl [])], .agg [.d (I 1), .d (I 0), .d (I 2), .d (I 1), .d (.sl Rb), .d (.sl [[I 31]]), .d (I 0), .d (I 2), .d (I 2), .d (I 1048577), .d (.sl []), .d (I 2), .d (I 1048578), .d (.sl []), .d (I 0), .d (.sl []), .d (.sl []), .d (.sl []), .d (.sl [])], .d (I 0), .d (B false)]
theorem rB_5 (R Ra Rb : List (List D)) (gk ri f h a0 b0 a1 b1 p0 p1 l0 l1 s0 s1 : Int) : RX VP (seqL ((flat vf37.body).drop 6)) ⟨keepT vf37K1 [.ptr 1 0, .ptr 2 0, .ptr 3 0, .ptr 4 0, .d (.sl ddV3), .d (I 0)], [[.d (.sl R), .d (I gk)], jZ, jZ, jA1 Ra (.sl [[I 1024]]) (saV3 ri f h a0 b0 a1 b1 p0 p1 l0 l1 s0 s1), jB0 Rb (.sl [[I 31]])], [], 0, 1, 0⟩ (retQ vf37 1 ⟨rdV5 Ra Rb ri f h a0 b0 a1 b1 p0 p1 l0 l1 s0 s1, [[.d (.sl R), .d (I gk)]], [], 0⟩) :=
  RX_end (cA_ok vft_ok noNat 400 60) 400 [] [] (ob := []) (by kernel_rfl) .nil
theorem seg_loopB {keep : List Bool} {b d : VCode} {id N ba : Nat} {vs : List V} {bl : List (List V)} {lv : List Nat} {gn : Nat} {st : St} {Q : VExit → St → Prop} (hs : Seg (keepK keep 0) N vs bl lv gn ba st) (hk : keep.length = N)
    (hf : forget keep (keepT keep vs) = keepT keep vs) (h : RX VP (.seq (.block id (.loop keep b)) d) ⟨keepT keep vs, bl, lv, gn, ba, 0⟩ Q) : RX VP (.seq (.block id (.loop keep b)) d) st Q := by
  have ht : forget keep st.tmps = keepT keep vs := (hs.at (n := 0) hk).tmps
  have hh : ∀ k, st.head keep k = St.head keep k ⟨keepT keep vs, bl, lv, gn, ba, 0⟩ := by
    intro k
    obtain ⟨ts, bs, l, g, ba, de⟩ := st
    obtain ⟨_, _, h1, h2, h3, h4, h5⟩ := hs
    simp only at h1 h2 h3 h4 h5 ht
    subst h1 h2 h3 h4 h5
    simp only [St.head, ht, hf]
  have e1 : ∀ C n k, vloop C n keep b k st = vloop C n keep b k ⟨keepT keep vs, bl, lv, gn, ba, 0⟩ := by
    intro C n k
    cases n with
    | zero => rfl
    | succ n => simp only [vloop, hh]
  have e2 : ∀ C n, vx C n (.loop keep b) st = vx C n (.loop keep b) ⟨keepT keep vs, bl, lv, gn, ba, 0⟩ := by
    intro C n
    cases n with
    | zero => rfl
    | succ n => simp only [vx, hs.blocks, e1]
  have e3 : ∀ C n, vx C n (.block id (.loop keep b)) st = vx C n (.block id (.loop keep b)) ⟨keepT keep vs, bl, lv, gn, ba, 0⟩ := by
    intro C n
    cases n with
    | zero => rfl
    | succ n => simp only [vx, e2]
  obtain ⟨e, s2, h1, h2⟩ := h
  refine ⟨e, s2, ?_, h2⟩
  obtain ⟨n, hn⟩ := X_iff.1 h1
  refine X_iff.2 ⟨n, ?_⟩
  rw [← hn]
  cases n with
  | zero => rfl
  | succ n => simp only [vx, e3]
theorem d37 : seqL ((flat vf37.body).drop 6) = .seq (.block 2 (.loop vf37K1 vf37L1)) (seqL ((flat vf37.body).drop 7)) := by kernel_rfl
theorem k37 : vf37K1.length = 108 := by kernel_rfl
theorem f37 (DD : List (List D)) : forget vf37K1 (keepT vf37K1 [.ptr 1 0, .ptr 2 0, .ptr 3 0, .ptr 4 0, .d (.sl DD), .d (I 0)]) = keepT vf37K1 [.ptr 1 0, .ptr 2 0, .ptr 3 0, .ptr 4 0, .d (.sl DD), .d (I 0)] := by kernel_rfl
theorem rd_join (R Ra Rb : List (List D)) (gk k0 : Int) (G G2 : D) (SA DD : List (List D)) {ret : Ret}
    (hA : ∀ {c : VCode} {Q : VExit → St → Prop}, (∀ st, Seg (keepK vf37K1 0) 108 [.ptr 1 0, .ptr 2 0, .ptr 3 0, .ptr 4 0, .d (.sl DD), .d (I 0)] [[.d (.sl R), .d (I gk)], jZ, jZ, jA1 Ra G SA, jB0 Rb G2] [] 0 1 st → RX VP c st Q) → RX VP (seqL ((flat vf37.body).take 6)) ⟨.ptr 0 0 :: List.replicate 107 .any, [[.d (.sl R), .d (I k0)]], [], 0, 1, 0⟩ (thn VP c Q))
    (hB : RX VP (seqL ((flat vf37.body).drop 6)) ⟨keepT vf37K1 [.ptr 1 0, .ptr 2 0, .ptr 3 0, .ptr 4 0, .d (.sl DD), .d (I 0)], [[.d (.sl R), .d (I gk)], jZ, jZ, jA1 Ra G SA, jB0 Rb G2], [], 0, 1, 0⟩ (retQ vf37 1 ret)) : CV VP 37 [.ptr 0 0] [[.d (.sl R), .d (I k0)]] = some ret := by
  refine CV_run (vf := vf37) rfl rfl ?_
  refine RX_cut 6 ?_
  refine hA fun st hs => ?_
  rw [d37] at hB ⊢
  exact seg_loopB hs k37 (f37 DD) hB
def rdV (n : Nat) (Ra Rb : List (List D)) (ri f h a0 b0 a1 b1 p0 p1 l0 l1 s0 s1 : Int) : V := match n with
  | 0 => rdV0 Ra Rb ri f h a0 b0 a1 b1 p0 p1 l0 l1 s0 s1
  | 1 => rdV1 Ra Rb ri f h a0 b0 a1 b1 p0 p1 l0 l1 s0 s1
  | 2 => rdV2 Ra Rb ri f h a0 b0 a1 b1 p0 p1 l0 l1 s0 s1
  | 3 => rdV3 Ra Rb ri f h a0 b0 a1 b1 p0 p1 l0 l1 s0 s1
  | 4 => rdV4 Ra Rb ri f h a0 b0 a1 b1 p0 p1 l0 l1 s0 s1
  | _ => rdV5 Ra Rb ri f h a0 b0 a1 b1 p0 p1 l0 l1 s0 s1
theorem gk_list {x : Nat} (hx : x < 12) : (grpA x = [31] ∧ grpB x = [31]) ∨ (grpA x = [31, 1024] ∧ grpB x = [31, 1024]) ∨ (grpA x = [31, 1024] ∧ grpB x = [1024, 31]) ∨ (grpA x = [1024, 31] ∧ grpB x = [31, 1024]) ∨ (grpA x = [31, 1024] ∧ grpB x = [31]) ∨ (grpA x = [1024] ∧ grpB x = [31]) := by
  match x, hx with
  | 0, _ => exact .inl ⟨rfl, rfl⟩
  | 1, _ => exact .inr (.inl ⟨rfl, rfl⟩)
  | 2, _ => exact .inr (.inr (.inl ⟨rfl, rfl⟩))
  | 3, _ => exact .inr (.inr (.inr (.inl ⟨rfl, rfl⟩)))
  | 4, _ => exact .inr (.inr (.inr (.inr (.inl ⟨rfl, rfl⟩))))
  | 5, _ => exact .inl ⟨rfl, rfl⟩
  | 6, _ => exact .inl ⟨rfl, rfl⟩
  | 7, _ => exact .inl ⟨rfl, rfl⟩
  | 8, _ => exact .inl ⟨rfl, rfl⟩
  | 9, _ => exact .inl ⟨rfl, rfl⟩
  | 10, _ => exact .inl ⟨rfl, rfl⟩
  | 11, _ => exact .inr (.inr (.inr (.inr (.inr (⟨rfl, rfl⟩)))))
theorem ctx2 : CtxOk [[], jZ, jZ] 0 := ⟨by decide, rfl, by decide⟩
theorem rd_one (R Ra Rb : List (List D)) (gk k0 ri f h a0 b0 a1 b1 p0 p1 l0 l1 s0 s1 : Int)
    (hS : ∀ (G G2 : D) (SA DD : List (List D)), CV VP 111 [.ptr 0 0] [[.d (.sl R), .d (I k0)], jZ, jZ] = some ⟨.tup [.agg (jA0 Ra G), .agg (jB0 Rb G2)], [[.d (.sl R), .d (I gk)], jZ, jZ], [], 0⟩ → CV VP 129 [.agg (jA0 Ra G), .d (I 2), .d (I ri), (bxJ f h a0 b0 a1 b1 p0 p1 l0 l1 s0 s1)] [] = some ⟨.tup [.agg (jA1 Ra G SA), .d (.sl DD), .d (I 0)], [], [], 0⟩ → ∀ {c : VCode} {Q : VExit → St → Prop}, (∀ st, Seg (keepK vf37K1 0) 108 [.ptr 1 0, .ptr 2 0, .ptr 3 0, .ptr 4 0, .d (.sl DD), .d (I 0)] [[.d (.sl R), .d (I gk)], jZ, jZ, jA1 Ra G SA, jB0 Rb G2] [] 0 1 st → RX VP c st Q) → RX VP (seqL ((flat vf37.body).take 6)) ⟨.ptr 0 0 :: List.replicate 107 .any, [[.d (.sl R), .d (I k0)]], [], 0, 1, 0⟩ (thn VP c Q))
    {ga gb : List Int} (hg : (ga = [31] ∧ gb = [31]) ∨ (ga = [31, 1024] ∧ gb = [31, 1024]) ∨ (ga = [31, 1024] ∧ gb = [1024, 31]) ∨ (ga = [1024, 31] ∧ gb = [31, 1024]) ∨ (ga = [31, 1024] ∧ gb = [31]) ∨ (ga = [1024] ∧ gb = [31]))
    (H111 : CV VP 111 [.ptr 0 0] [[.d (.sl R), .d (I k0)], jZ, jZ] = some ⟨.tup [.agg (jA0 Ra (.sl (ga.map numRow))), .agg (jB0 Rb (.sl (gb.map numRow)))], [[.d (.sl R), .d (I gk)], jZ, jZ], [], 0⟩) :
    ∃ n : Nat, n < 6 ∧ CV VP 37 [.ptr 0 0] [[.d (.sl R), .d (I k0)]] = some ⟨rdV n Ra Rb ri f h a0 b0 a1 b1 p0 p1 l0 l1 s0 s1, [[.d (.sl R), .d (I gk)]], [], 0⟩ := by
  rcases hg with ⟨rfl, rfl⟩ | ⟨rfl, rfl⟩ | ⟨rfl, rfl⟩ | ⟨rfl, rfl⟩ | ⟨rfl, rfl⟩ | ⟨rfl, rfl⟩
  · exact ⟨0, by decide, rd_join R Ra Rb gk k0 _ _ _ _ (hS _ _ _ _ H111 (eb_0 Ra ri f h a0 b0 a1 b1 p0 p1 l0 l1 s0 s1)) (rB_0 R Ra Rb gk ri f h a0 b0 a1 b1 p0 p1 l0 l1 s0 s1)⟩
  · exact ⟨1, by decide, rd_join R Ra Rb gk k0 _ _ _ _ (hS _ _ _ _ H111 (eb_1 Ra ri f h a0 b0 a1 b1 p0 p1 l0 l1 s0 s1)) (rB_1 R Ra Rb gk ri f h a0 b0 a1 b1 p0 p1 l0 l1 s0 s1)⟩
  · exact ⟨2, by decide, rd_join R Ra Rb gk k0 _ _ _ _ (hS _ _ _ _ H111 (eb_1 Ra ri f h a0 b0 a1 b1 p0 p1 l0 l1 s0 s1)) (rB_2 R Ra Rb gk ri f h a0 b0 a1 b1 p0 p1 l0 l1 s0 s1)⟩
  · exact ⟨3, by decide, rd_join R Ra Rb gk k0 _ _ _ _ (hS _ _ _ _ H111 (eb_2 Ra ri f h a0 b0 a1 b1 p0 p1 l0 l1 s0 s1)) (rB_3 R Ra Rb gk ri f h a0 b0 a1 b1 p0 p1 l0 l1 s0 s1)⟩
  · exact ⟨4, by decide, rd_join R Ra Rb gk k0 _ _ _ _ (hS _ _ _ _ H111 (eb_1 Ra ri f h a0 b0 a1 b1 p0 p1 l0 l1 s0 s1)) (rB_4 R Ra Rb gk ri f h a0 b0 a1 b1 p0 p1 l0 l1 s0 s1)⟩
  · exact ⟨5, by decide, rd_join R Ra Rb gk k0 _ _ _ _ (hS _ _ _ _ H111 (eb_3 Ra ri f h a0 b0 a1 b1 p0 p1 l0 l1 s0 s1)) (rB_5 R Ra Rb gk ri f h a0 b0 a1 b1 p0 p1 l0 l1 s0 s1)⟩
set_option maxHeartbeats 8000000 in
theorem e37r {l : List Int} (hB : Bytes l) : ∃ (ra rb : List Ru) (i gk : Nat) (x : Bx) (more : List Bx) (n : Nat), ra[i]? = some ⟨2, gold, x :: more⟩ ∧ x.ok ∧ x.fine ∧ (∀ r ∈ rb, r.fine) ∧ rb.length ≤ 6 ∧ n < 6 ∧ (∃ pre tail : List Ru, ra = pre ++ [⟨2, gold, x :: more⟩] ++ tail ∧ i = pre.length ∧ pre.length ≤ 2 ∧ tail.length ≤ 1) ∧
    CV VP 37 [.ptr 0 0] [[.d (.sl (l.map byteRow)), .d (I 0)]] = some ⟨rdV n (ra.map Ru.row) (rb.map Ru.row) i x.f x.h x.a0 x.b0 x.a1 x.b1 x.p0 x.p1 x.l0 x.l1 x.r0 x.r1, [[.d (.sl (l.map byteRow)), .d (I (gk : Nat))]], [], 0⟩ := by
  obtain ⟨pre, x, more, tail, hr, hp, hm, ht, ho, hf⟩ := ruS_shape hB (s := 0) (by decide) (by decide) (nxA l 0)
  have h18 := e36b hB 0 0 _ ctx2
  rw [show (gaF l 0).1.1 = gwN 0 1 2 (ruS l 0 (nxA l 0)).1 (grpA (nxV l 0 12).toNat) from rfl, hr,
    show (gaF l 0).1.2 = gwN 1 2 1 (ruS l 1 (ruS l 0 (nxA l 0)).2).1 (grpB (nxV l 0 12).toNat) from rfl] at h18
  have hrf := ruS_fine hB (s := 1) (by decide) (by decide) (ruS l 0 (nxA l 0)).2
  have hrl := (ruS_len hB 1 (ruS l 0 (nxA l 0)).2).1
  have hx := nxV_range hB (k := 0) (n := 12) (by decide)
  have hg := gk_list (x := (nxV l 0 12).toNat) (by omega)
  generalize (ruS l 1 (ruS l 0 (nxA l 0)).2).1 = rb at h18 hrf hrl
  generalize (gaF l 0).2 = gk at h18
  generalize grpA (nxV l 0 12).toNat = ga at h18 hg
  generalize grpB (nxV l 0 12).toNat = gb at h18 hg
  clear hr hx
  refine ⟨pre ++ [(⟨2, gold, x :: more⟩ : Ru)] ++ tail, rb, pre.length, gk, x, more, ?_⟩
  suffices h : ∃ n : Nat, n < 6 ∧ CV VP 37 [.ptr 0 0] [[.d (.sl (l.map byteRow)), .d (I 0)]] = some ⟨rdV n ((pre ++ [(⟨2, gold, x :: more⟩ : Ru)] ++ tail).map Ru.row) (rb.map Ru.row) pre.length x.f x.h x.a0 x.b0 x.a1 x.b1 x.p0 x.p1 x.l0 x.l1 x.r0 x.r1, [[.d (.sl (l.map byteRow)), .d (I (gk : Nat))]], [], 0⟩ by
    obtain ⟨n, hn, h⟩ := h
    exact ⟨n, by simp, ho, hf, hrf, by omega, hn, ⟨pre, tail, rfl, rfl, hp, by rcases ht with rfl | rfl <;> simp⟩, h⟩
  match pre, hp with
  | [], _ =>
    match more, hm with
    | [], _ =>
      rcases ht with rfl | rfl
      · exact rd_one (l.map byteRow) (shA0 x.f x.h x.a0 x.b0 x.a1 x.b1 x.p0 x.p1 x.l0 x.l1 x.r0 x.r1 [] [] [] (.lit (.string ⟨#[]⟩)) (.sl [bypass.row])) (rb.map Ru.row) (gk : Nat) 0 _ x.f x.h x.a0 x.b0 x.a1 x.b1 x.p0 x.p1 x.l0 x.l1 x.r0 x.r1 (fun G G2 SA DD H1 H2 => rA_0 (l.map byteRow) (gk : Nat) 0 x.f x.h x.a0 x.b0 x.a1 x.b1 x.p0 x.p1 x.l0 x.l1 x.r0 x.r1 G G2 (rb.map Ru.row) SA DD [] [] [] (.lit (.string ⟨#[]⟩)) (.sl [bypass.row]) H1 H2) hg h18
      · exact rd_one (l.map byteRow) (shA1 x.f x.h x.a0 x.b0 x.a1 x.b1 x.p0 x.p1 x.l0 x.l1 x.r0 x.r1 [] [] [] (.lit (.string ⟨#[]⟩)) (.sl [bypass.row])) (rb.map Ru.row) (gk : Nat) 0 _ x.f x.h x.a0 x.b0 x.a1 x.b1 x.p0 x.p1 x.l0 x.l1 x.r0 x.r1 (fun G G2 SA DD H1 H2 => rA_1 (l.map byteRow) (gk : Nat) 0 x.f x.h x.a0 x.b0 x.a1 x.b1 x.p0 x.p1 x.l0 x.l1 x.r0 x.r1 G G2 (rb.map Ru.row) SA DD [] [] [] (.lit (.string ⟨#[]⟩)) (.sl [bypass.row]) H1 H2) hg h18
    | [w1], _ =>
      rcases ht with rfl | rfl
      · exact rd_one (l.map byteRow) (shA2 x.f x.h x.a0 x.b0 x.a1 x.b1 x.p0 x.p1 x.l0 x.l1 x.r0 x.r1 [] [] w1.row (.lit (.string ⟨#[]⟩)) (.sl [bypass.row])) (rb.map Ru.row) (gk : Nat) 0 _ x.f x.h x.a0 x.b0 x.a1 x.b1 x.p0 x.p1 x.l0 x.l1 x.r0 x.r1 (fun G G2 SA DD H1 H2 => rA_2 (l.map byteRow) (gk : Nat) 0 x.f x.h x.a0 x.b0 x.a1 x.b1 x.p0 x.p1 x.l0 x.l1 x.r0 x.r1 G G2 (rb.map Ru.row) SA DD [] [] w1.row (.lit (.string ⟨#[]⟩)) (.sl [bypass.row]) H1 H2) hg h18
      · exact rd_one (l.map byteRow) (shA3 x.f x.h x.a0 x.b0 x.a1 x.b1 x.p0 x.p1 x.l0 x.l1 x.r0 x.r1 [] [] w1.row (.lit (.string ⟨#[]⟩)) (.sl [bypass.row])) (rb.map Ru.row) (gk : Nat) 0 _ x.f x.h x.a0 x.b0 x.a1 x.b1 x.p0 x.p1 x.l0 x.l1 x.r0 x.r1 (fun G G2 SA DD H1 H2 => rA_3 (l.map byteRow) (gk : Nat) 0 x.f x.h x.a0 x.b0 x.a1 x.b1 x.p0 x.p1 x.l0 x.l1 x.r0 x.r1 G G2 (rb.map Ru.row) SA DD [] [] w1.row (.lit (.string ⟨#[]⟩)) (.sl [bypass.row]) H1 H2) hg h18
    | _ :: _ :: _, hm => exact absurd hm (by simp)
  | [u], _ =>
    match more, hm with
    | [], _ =>
      rcases ht with rfl | rfl
      · exact rd_one (l.map byteRow) (shA4 x.f x.h x.a0 x.b0 x.a1 x.b1 x.p0 x.p1 x.l0 x.l1 x.r0 x.r1 u.row [] [] (.lit (.string ⟨#[]⟩)) (.sl [bypass.row])) (rb.map Ru.row) (gk : Nat) 0 _ x.f x.h x.a0 x.b0 x.a1 x.b1 x.p0 x.p1 x.l0 x.l1 x.r0 x.r1 (fun G G2 SA DD H1 H2 => rA_4 (l.map byteRow) (gk : Nat) 0 x.f x.h x.a0 x.b0 x.a1 x.b1 x.p0 x.p1 x.l0 x.l1 x.r0 x.r1 G G2 (rb.map Ru.row) SA DD u.row [] [] (.lit (.string ⟨#[]⟩)) (.sl [bypass.row]) H1 H2) hg h18
      · exact rd_one (l.map byteRow) (shA5 x.f x.h x.a0 x.b0 x.a1 x.b1 x.p0 x.p1 x.l0 x.l1 x.r0 x.r1 u.row [] [] (.lit (.string ⟨#[]⟩)) (.sl [bypass.row])) (rb.map Ru.row) (gk : Nat) 0 _ x.f x.h x.a0 x.b0 x.a1 x.b1 x.p0 x.p1 x.l0 x.l1 x.r0 x.r1 (fun G G2 SA DD H1 H2 => rA_5 (l.map byteRow) (gk : Nat) 0 x.f x.h x.a0 x.b0 x.a1 x.b1 x.p0 x.p1 x.l0 x.l1 x.r0 x.r1 G G2 (rb.map Ru.row) SA DD u.row [] [] (.lit (.string ⟨#[]⟩)) (.sl [bypass.row]) H1 H2) hg h18
    | [w1], _ =>
      rcases ht with rfl | rfl
      · exact rd_one (l.map byteRow) (shA6 x.f x.h x.a0 x.b0 x.a1 x.b1 x.p0 x.p1 x.l0 x.l1 x.r0 x.r1 u.row [] w1.row (.lit (.string ⟨#[]⟩)) (.sl [bypass.row])) (rb.map Ru.row) (gk : Nat) 0 _ x.f x.h x.a0 x.b0 x.a1 x.b1 x.p0 x.p1 x.l0 x.l1 x.r0 x.r1 (fun G G2 SA DD H1 H2 => rA_6 (l.map byteRow) (gk : Nat) 0 x.f x.h x.a0 x.b0 x.a1 x.b1 x.p0 x.p1 x.l0 x.l1 x.r0 x.r1 G G2 (rb.map Ru.row) SA DD u.row [] w1.row (.lit (.string ⟨#[]⟩)) (.sl [bypass.row]) H1 H2) hg h18
      · exact rd_one (l.map byteRow) (shA7 x.f x.h x.a0 x.b0 x.a1 x.b1 x.p0 x.p1 x.l0 x.l1 x.r0 x.r1 u.row [] w1.row (.lit (.string ⟨#[]⟩)) (.sl [bypass.row])) (rb.map Ru.row) (gk : Nat) 0 _ x.f x.h x.a0 x.b0 x.a1 x.b1 x.p0 x.p1 x.l0 x.l1 x.r0 x.r1 (fun G G2 SA DD H1 H2 => rA_7 (l.map byteRow) (gk : Nat) 0 x.f x.h x.a0 x.b0 x.a1 x.b1 x.p0 x.p1 x.l0 x.l1 x.r0 x.r1 G G2 (rb.map Ru.row) SA DD u.row [] w1.row (.lit (.string ⟨#[]⟩)) (.sl [bypass.row]) H1 H2) hg h18
    | _ :: _ :: _, hm => exact absurd hm (by simp)
  | [u, u2], _ =>
    match more, hm with
    | [], _ =>
      rcases ht with rfl | rfl
      · exact rd_one (l.map byteRow) (shA8 x.f x.h x.a0 x.b0 x.a1 x.b1 x.p0 x.p1 x.l0 x.l1 x.r0 x.r1 u.row u2.row [] (.lit (.string ⟨#[]⟩)) (.sl [bypass.row])) (rb.map Ru.row) (gk : Nat) 0 _ x.f x.h x.a0 x.b0 x.a1 x.b1 x.p0 x.p1 x.l0 x.l1 x.r0 x.r1 (fun G G2 SA DD H1 H2 => rA_8 (l.map byteRow) (gk : Nat) 0 x.f x.h x.a0 x.b0 x.a1 x.b1 x.p0 x.p1 x.l0 x.l1 x.r0 x.r1 G G2 (rb.map Ru.row) SA DD u.row u2.row [] (.lit (.string ⟨#[]⟩)) (.sl [bypass.row]) H1 H2) hg h18
      · exact rd_one (l.map byteRow) (shA9 x.f x.h x.a0 x.b0 x.a1 x.b1 x.p0 x.p1 x.l0 x.l1 x.r0 x.r1 u.row u2.row [] (.lit (.string ⟨#[]⟩)) (.sl [bypass.row])) (rb.map Ru.row) (gk : Nat) 0 _ x.f x.h x.a0 x.b0 x.a1 x.b1 x.p0 x.p1 x.l0 x.l1 x.r0 x.r1 (fun G G2 SA DD H1 H2 => rA_9 (l.map byteRow) (gk : Nat) 0 x.f x.h x.a0 x.b0 x.a1 x.b1 x.p0 x.p1 x.l0 x.l1 x.r0 x.r1 G G2 (rb.map Ru.row) SA DD u.row u2.row [] (.lit (.string ⟨#[]⟩)) (.sl [bypass.row]) H1 H2) hg h18
    | [w1], _ =>
      rcases ht with rfl | rfl
      · exact rd_one (l.map byteRow) (shA10 x.f x.h x.a0 x.b0 x.a1 x.b1 x.p0 x.p1 x.l0 x.l1 x.r0 x.r1 u.row u2.row w1.row (.lit (.string ⟨#[]⟩)) (.sl [bypass.row])) (rb.map Ru.row) (gk : Nat) 0 _ x.f x.h x.a0 x.b0 x.a1 x.b1 x.p0 x.p1 x.l0 x.l1 x.r0 x.r1 (fun G G2 SA DD H1 H2 => rA_10 (l.map byteRow) (gk : Nat) 0 x.f x.h x.a0 x.b0 x.a1 x.b1 x.p0 x.p1 x.l0 x.l1 x.r0 x.r1 G G2 (rb.map Ru.row) SA DD u.row u2.row w1.row (.lit (.string ⟨#[]⟩)) (.sl [bypass.row]) H1 H2) hg h18
      · exact rd_one (l.map byteRow) (shA11 x.f x.h x.a0 x.b0 x.a1 x.b1 x.p0 x.p1 x.l0 x.l1 x.r0 x.r1 u.row u2.row w1.row (.lit (.string ⟨#[]⟩)) (.sl [bypass.row])) (rb.map Ru.row) (gk : Nat) 0 _ x.f x.h x.a0 x.b0 x.a1 x.b1 x.p0 x.p1 x.l0 x.l1 x.r0 x.r1 (fun G G2 SA DD H1 H2 => rA_11 (l.map byteRow) (gk : Nat) 0 x.f x.h x.a0 x.b0 x.a1 x.b1 x.p0 x.p1 x.l0 x.l1 x.r0 x.r1 G G2 (rb.map Ru.row) SA DD u.row u2.row w1.row (.lit (.string ⟨#[]⟩)) (.sl [bypass.row]) H1 H2) hg h18
    | _ :: _ :: _, hm => exact absurd hm (by simp)
  | _ :: _ :: _ :: _, hp => exact absurd hp (by simp)
end Go.Proofs.YtknbgkfojmedpaaGreat
set_option linter.unusedVariables false
set_option maxRecDepth 100000
set_option maxHeartbeats 4000000
namespace Go.Proofs.YtknbgkfojmedpaaGreat
open Go.VM
theorem h191l {c0 c1 c2 c3 c5 c6 c7 c8 c9 c10 c11 c12 c13 c14 c15 c18 : D} {i1 o1 n1 s1 i2 : Nat} {r2 : List (List D)} {w2 : Tag} {rows : List (List D)} {n : Int} {t : ByteArray} {a b : D} (bl : List (List V)) (hb : bl.all (V.ltbL bl.length) = true) (i : Nat) (hn : n = (i : Int)) (h : rows[i]? = some [a, .lit (.string t), b]) :
    CV VP 191 [.agg [.d c0, .d c1, .d c2, .d c3, .d (.sl rows), .d c5, .d c6, .d c7, .d c8, .d c9, .d c10, .d c11, .d c12, .d c13, .d c14, .d c15, .loc i1 o1 n1 s1, .sl i2 r2 w2, .d c18], .d (I n)] bl = some ⟨.d (.lit (.string t)), bl, [], 0⟩ := by
  subst hn
  have hl := (List.getElem?_eq_some_iff.1 h).1
  have h0 : ¬ ((i : Int) < 0) := by omega
  have h1 : ¬ ((rows.length : Int) ≤ (i : Int)) := by omega
  have ht : bl.take bl.length = bl := List.take_length
  have hg : ∀ x : List V, (bl ++ [x])[bl.length]? = some x := fun x => by simp
  have hd : ∀ x : List V, (bl ++ [x]).getD bl.length [] = x := fun x => by simp
  have hk : ∀ x : List V, (bl ++ [x]).take bl.length = bl := fun x => by simp
  have hL : ∀ x : List V, (bl ++ [x]).length = bl.length + 1 := fun x => by simp
  have hlt : ∀ x : List V, bl.length < (bl ++ [x]).length := fun x => by simp
  refine CV_run (vf := vf191) rfl rfl ?_
  rw [vf191_start]
  (repeat (first
    | refine RX_seq ?_
    | refine RX_block ?_
    | ((first | refine RX_reg ?_ | refine RX_cond' ?_ | refine RX_draw0 ?_ | refine RX_draw rfl ?_ | refine RX_skip ?_ | refine RX_gfrz ?_ | refine RX_exit ?_ | refine RX_ret ?_); try (simp only [go_sem, Nat.max_zero, List.isEmpty_cons, Int.reduceToNat, Nat.reducePow, Int.reduceEq, Int.reduceNe, Int.reduceLT, Int.reduceLE, Nat.reduceAdd, Nat.reduceLeDiff, ↓reduceIte, Nat.reduceLT, Nat.reduceMul, Nat.reduceSub, reduceCtorEq, frzLoc, rowCells, vAppM, beq_iff_eq, bne_iff_ne, bne_self_eq_false, beq_self_eq_true, beq_true, beq_false, I, B, w, vf191_res, vf191_keep, h0, h1, hl, h, ge_iff_le, hb, ht, hg, hd, hk, hL]))))
theorem h191d {c0 c1 c2 c3 c5 c6 c7 c8 c9 c10 c11 c12 c13 c14 c15 c16 c17 c18 : D} {rows : List (List D)} {n : Int} {t : ByteArray} {a b : D} (bl : List (List V)) (hb : bl.all (V.ltbL bl.length) = true) (i : Nat) (hn : n = (i : Int)) (h : rows[i]? = some [a, .lit (.string t), b]) :
    CV VP 191 [.agg [.d c0, .d c1, .d c2, .d c3, .d (.sl rows), .d c5, .d c6, .d c7, .d c8, .d c9, .d c10, .d c11, .d c12, .d c13, .d c14, .d c15, .d c16, .d c17, .d c18], .d (I n)] bl = some ⟨.d (.lit (.string t)), bl, [], 0⟩ := by
  subst hn
  have hl := (List.getElem?_eq_some_iff.1 h).1
  have h0 : ¬ ((i : Int) < 0) := by omega
  have h1 : ¬ ((rows.length : Int) ≤ (i : Int)) := by omega
  have ht : bl.take bl.length = bl := List.take_length
  have hg : ∀ x : List V, (bl ++ [x])[bl.length]? = some x := fun x => by simp
  have hd : ∀ x : List V, (bl ++ [x]).getD bl.length [] = x := fun x => by simp
  have hk : ∀ x : List V, (bl ++ [x]).take bl.length = bl := fun x => by simp
  have hL : ∀ x : List V, (bl ++ [x]).length = bl.length + 1 := fun x => by simp
  have hlt : ∀ x : List V, bl.length < (bl ++ [x]).length := fun x => by simp
  refine CV_run (vf := vf191) rfl rfl ?_
  rw [vf191_start]
  (repeat (first
    | refine RX_seq ?_
    | refine RX_block ?_
    | ((first | refine RX_reg ?_ | refine RX_cond' ?_ | refine RX_draw0 ?_ | refine RX_draw rfl ?_ | refine RX_skip ?_ | refine RX_gfrz ?_ | refine RX_exit ?_ | refine RX_ret ?_); try (simp only [go_sem, Nat.max_zero, List.isEmpty_cons, Int.reduceToNat, Nat.reducePow, Int.reduceEq, Int.reduceNe, Int.reduceLT, Int.reduceLE, Nat.reduceAdd, Nat.reduceLeDiff, ↓reduceIte, Nat.reduceLT, Nat.reduceMul, Nat.reduceSub, reduceCtorEq, frzLoc, rowCells, vAppM, beq_iff_eq, bne_iff_ne, bne_self_eq_false, beq_self_eq_true, beq_true, beq_false, I, B, w, vf191_res, vf191_keep, h0, h1, hl, h, ge_iff_le, hb, ht, hg, hd, hk, hL]))))
end Go.Proofs.YtknbgkfojmedpaaGreat
set_option linter.unusedVariables false
set_option maxRecDepth 100000
set_option maxHeartbeats 4000000
namespace Go.Proofs.YtknbgkfojmedpaaGreat
open Go.VM
def strL : List (List D) → List UInt8
  | [_, .lit (.int _ n), _] :: ts => UInt8.ofNat n.toNat :: strL ts
  | _ => []
def strT (ts : List (List D)) : ByteArray := ⟨(strL ts).toArray⟩
noncomputable def AA (R : List (List D)) (nx : Int → Int → Int) (na : Int → Int) (gk : Int) (rv nr : V) : Orc := fun f a b => match Nat.beq f 14 with
  | true => some ⟨.ptr 0 0, [[.sl 1 R (.own 0 0), .d (I 0)]], [0], 1⟩
  | false => match Nat.beq f 16 with
    | true => match a with
      | [_, .d (.lit (.int _ n))] => match b with
        | [_, .d (.lit (.int _ k))] :: bs => some ⟨.d (I (nx k n)), [.d (.sl R), .d (I (na k))] :: bs, [], 0⟩
        | _ => none
      | _ => none
    | false => match Nat.beq f 37 with
        | true => match b with
          | [_, .d (.lit (.int _ k))] :: bs => some ⟨rv, [.d (.sl R), .d (I gk)] :: bs, [], 0⟩
          | _ => none
        | false => match Nat.beq f 234 with
          | true => match a with
            | [.agg [.d (.lit (.int _ f0)), .d (.lit (.int _ h0)), .d (.lit (.int _ a0)), .d (.lit (.int _ f1)), .d (.lit (.int _ h1)), .d (.lit (.int _ a1)), .d (.lit (.int _ f2)), .d (.lit (.int _ h2)), .d (.lit (.int _ a2)), .d (.lit (.int _ f3)), .d (.lit (.int _ h3)), .d (.lit (.int _ a3)), .d (.lit (.int _ p0)), .d (.lit (.int _ p1)), .d (.lit (.int _ l0)), .d (.lit (.int _ l1)), .d (.lit (.int _ r0)), .d (.lit (.int _ r1))], .d (.lit (.string t))] => some ⟨bxP f0 h0 a0 f1 h1 a1 f2 h2 a2 f3 h3 a3 p0 p1 l0 l1 r0 r1 t, [], [], 0⟩
            | _ => none
          | false => match Nat.beq f 235 with
            | true => match a with
              | [.d (.sl ([_, .lit (.int _ f0), _] :: [_, .lit (.int _ h0), _] :: [_, .lit (.int _ a0), _] :: [_, .lit (.int _ f1), _] :: [_, .lit (.int _ h1), _] :: [_, .lit (.int _ a1), _] :: [_, .lit (.int _ f2), _] :: [_, .lit (.int _ h2), _] :: [_, .lit (.int _ a2), _] :: [_, .lit (.int _ f3), _] :: [_, .lit (.int _ h3), _] :: [_, .lit (.int _ a3), _] :: [_, .lit (.int _ p0), _] :: [_, .lit (.int _ p1), _] :: [_, .lit (.int _ l0), _] :: [_, .lit (.int _ l1), _] :: [_, .lit (.int _ r0), _] :: [_, .lit (.int _ r1), _] :: ts))] =>
                some ⟨.tup [.agg [.d (I f0), .d (U h0), .d (U a0), .d (I f1), .d (U h1), .d (U a1), .d (I f2), .d (U h2), .d (U a2), .d (I f3), .d (U h3), .d (U a3), .d (I p0), .d (I p1), .d (I l0), .d (I l1), .d (I r0), .d (I r1)], .d (.lit (.string (strT ts))), .d (B true)], [], [], 0⟩
              | _ => none
            | false => match Nat.beq f 217 with
              | true => some ⟨.d (B (ansB VP 217 a)), [], [], 0⟩
              | false => match Nat.beq f 210 with
                | true => some ⟨nr, [], [], 0⟩
                | false => match Nat.beq f 191 with
                  | true => some ⟨.d goldS, b, [], 0⟩
                  | false => none
structure VaA where
  R : List (List D)
  X : List (List D)
  Ra : List (List D)
  Rb : List (List D)
  nx : Int → Int → Int
  na : Int → Int
  gk : Int
  ri : Int
  f : Int
  h : Int
  a0 : Int
  b0 : Int
  a1 : Int
  b1 : Int
  p0 : Int
  p1 : Int
  l0 : Int
  l1 : Int
  s0 : Int
  s1 : Int
  rr : Int
  mf : Int
  mh : Int
  c0 : Int
  d0 : Int
  c1 : Int
  d1 : Int
  q0 : Int
  q1 : Int
  k0 : Int
  k1 : Int
  t0 : Int
  t1 : Int
abbrev nrA (v : VaA) : V := (.tup [.d (I v.rr), .agg [.d (I v.mf), .d (U v.mh), .d (U v.c0), .d (I v.mf), .d (U v.mh), .d (U v.d0), .d (I v.mf), .d (U v.mh), .d (U v.c1), .d (I v.mf), .d (U v.mh), .d (U v.d1), .d (I v.q0), .d (I v.q1), .d (I v.k0), .d (I v.k1), .d (I v.t0), .d (I v.t1)], .d (B true)])
abbrev nzA : V := (.tup [.d (I 0), .agg [.d (I 0), .d (U 0), .d (U 0), .d (I 0), .d (U 0), .d (U 0), .d (I 0), .d (U 0), .d (U 0), .d (I 0), .d (U 0), .d (U 0), .d (I 0), .d (I 0), .d (I 0), .d (I 0), .d (I 0), .d (I 0)], .d (B false)])
theorem AA_ok (v : VaA) (rv nr : V) : CFok VP (cA VP vft.get (AA v.R v.nx v.na v.gk rv nr) 400 60) := cA_ok vft_ok _ 400 60
structure HA0 (v : VaA) : Prop where
  hN : NX v.R v.nx v.na
  hgk : 0 ≤ v.gk
  h14 : CV VP 14 [.d (.sl v.X), .d (I 200)] [] = some ⟨.ptr 0 0, [[.sl 1 v.R (.own 0 0), .d (I 0)]], [0], 1⟩
  xok : Bx.ok ⟨v.f, v.h, v.a0, v.b0, v.a1, v.b1, v.p0, v.p1, v.l0, v.l1, v.s0, v.s1⟩
  xfine : Bx.fine ⟨v.f, v.h, v.a0, v.b0, v.a1, v.b1, v.p0, v.p1, v.l0, v.l1, v.s0, v.s1⟩
  hra : ∃ (i : Nat) (a b : D), v.ri = (i : Int) ∧ v.Ra[i]? = some [a, .lit (.string ⟨#[103, 111, 108, 100]⟩), b]
  hsh : ∃ (p t : List (List D)) (bs : List (List D)), v.Ra = p ++ [I 2, .lit (.string ⟨#[103, 111, 108, 100]⟩), .sl bs] :: t ∧ v.ri = (p.length : Int) ∧ p.length ≤ 2 ∧ t.length ≤ 1
  hrb : ∃ rb : List Ru, v.Rb = rb.map Ru.row ∧ rb.length ≤ 24 ∧ ∀ r ∈ rb, r.bs.length ≤ 16
structure HA5 (v : VaA) : Prop where
  b : HA0 v
structure HAz (v : VaA) : Prop where
  b : HA0 v
  h210 : CV VP 210 [.d (.sl v.Rb), (Bx.mk v.f v.h v.a0 v.b0 v.a1 v.b1 v.p0 v.p1 v.l0 v.l1 v.s0 v.s1).ag, .d goldS] [] = some ⟨nzA, [], [], 0⟩
structure HAs (v : VaA) : Prop where
  b : HA0 v
  h210 : CV VP 210 [.d (.sl v.Rb), (Bx.mk v.f v.h v.a0 v.b0 v.a1 v.b1 v.p0 v.p1 v.l0 v.l1 v.s0 v.s1).ag, .d goldS] [] = some ⟨nrA v, [], [], 0⟩
  mok : Bx.ok ⟨v.mf, v.mh, v.c0, v.d0, v.c1, v.d1, v.q0, v.q1, v.k0, v.k1, v.t0, v.t1⟩
  mfine : Bx.fine ⟨v.mf, v.mh, v.c0, v.d0, v.c1, v.d1, v.q0, v.q1, v.k0, v.k1, v.t0, v.t1⟩
  msok : Bx.ok ⟨v.mf, v.mh, v.c1, v.d1, v.c0, v.d0, v.q0, v.q1, v.t0, v.t1, v.k0, v.k1⟩
  hrow : ∃ (i : Nat) (a b : D), v.rr = (i : Int) ∧ v.Rb[i]? = some [a, .lit (.string ⟨#[103, 111, 108, 100]⟩), b]
  hv : ansB VP 217 [(Bx.mk v.mf v.mh v.c1 v.d1 v.c0 v.d0 v.q0 v.q1 v.t0 v.t1 v.k0 v.k1).ag, (Bx.mk v.f v.h v.a0 v.b0 v.a1 v.b1 v.p0 v.p1 v.l0 v.l1 v.s0 v.s1).ag] = true
theorem auth_all {l : List Int} (hB : ByteL l) {A : Prop}
    (hz : ∀ (v : VaA) (n : Nat), n < 6 → v.X = l.map byteRow → HAz v → CV VP 37 [.ptr 0 0] [[.d (.sl v.R), .d (I 0)]] = some ⟨rdV n v.Ra v.Rb v.ri v.f v.h v.a0 v.b0 v.a1 v.b1 v.p0 v.p1 v.l0 v.l1 v.s0 v.s1, [[.d (.sl v.R), .d (I v.gk)]], [], 0⟩ → A)
    (hs : ∀ (v : VaA) (n : Nat), n < 6 → v.X = l.map byteRow → HAs v → CV VP 37 [.ptr 0 0] [[.d (.sl v.R), .d (I 0)]] = some ⟨rdV n v.Ra v.Rb v.ri v.f v.h v.a0 v.b0 v.a1 v.b1 v.p0 v.p1 v.l0 v.l1 v.s0 v.s1, [[.d (.sl v.R), .d (I v.gk)]], [], 0⟩ → A) : A := by
  have hb : Bytes (l.take 200) := bytes_take hB 200 (by decide)
  have hN := nx_of hb
  have h14 := e21 (l := l) 200 (by decide)
  obtain ⟨ra, rb, i, gk, x, more, n, hri, ho, hf, hrf, hrl, hn, ⟨pre, tail, hra1, hra2, hra3, hra4⟩, h37⟩ := e37r hb
  have h97 := e48 rb x gold (by omega) (fun r hr => ⟨by have := (hrf r hr).len; omega, fun b hb => ((hrf r hr).bs b hb).1⟩) ho
  have hra : ∃ (j : Nat) (a b : D), (i : Int) = (j : Int) ∧ (ra.map Ru.row)[j]? = some [a, .lit (.string ⟨#[103, 111, 108, 100]⟩), b] := by
    refine ⟨i, I 2, .sl ((x :: more).map Bx.row), rfl, ?_⟩
    rw [List.getElem?_map, hri]
    rfl
  have hsh : ∃ (p t : List (List D)) (bs : List (List D)), ra.map Ru.row = p ++ [I 2, .lit (.string ⟨#[103, 111, 108, 100]⟩), .sl bs] :: t ∧ (i : Int) = (p.length : Int) ∧ p.length ≤ 2 ∧ t.length ≤ 1 := by
    refine ⟨pre.map Ru.row, tail.map Ru.row, (x :: more).map Bx.row, ?_, ?_, ?_, ?_⟩
    · rw [hra1, List.map_append, List.map_append, List.append_assoc]; rfl
    · rw [List.length_map, hra2]
    · rw [List.length_map]; exact hra3
    · rw [List.length_map]; exact hra4
  cases hq : nar x.swap gold 0 rb with
  | none =>
    rw [hq] at h97
    obtain ⟨xf, xh, xa0, xb0, xa1, xb1, xp0, xp1, xl0, xl1, xr0, xr1⟩ := x
    exact hz (VaA.mk ((l.take 200).map byteRow) (l.map byteRow) (ra.map Ru.row) (rb.map Ru.row) (fun k n => nxV (l.take 200) k.toNat n) (fun k => (nxA (l.take 200) k.toNat : Nat)) (gk : Nat) (i : Int) xf xh xa0 xb0 xa1 xb1 xp0 xp1 xl0 xl1 xr0 xr1 0 0 0 0 0 0 0 0 0 0 0 0 0) n hn rfl ⟨⟨hN, Int.natCast_nonneg _, h14, ho, hf, hra, hsh, ⟨rb, rfl, by omega, fun r hr => (hrf r hr).len⟩⟩, h97⟩ h37
  | some jm =>
    obtain ⟨j, m⟩ := jm
    rw [hq] at h97
    obtain ⟨r, _, hj, htm, _, hfb⟩ := nar_some hq
    have hrm := List.mem_of_getElem? hj
    have htg := tm_gold (hrf r hrm) htm
    obtain ⟨y, hy, hyf, hyo, hme⟩ := fbx_some hfb
    have hyk := (hrf r hrm).bs y hy
    have hmk := meet_fine (Bx.swap_both ho hf).1 (Bx.swap_both ho hf).2 hyk.1 hyk.2 hyo
    have hv := ins_nar ho hf hyk.1 hyo
    rw [← hme] at hmk hv
    have hrow : ∃ (i : Nat) (a b : D), ((j : Nat) : Int) = (i : Int) ∧ (rb.map Ru.row)[i]? = some [a, .lit (.string ⟨#[103, 111, 108, 100]⟩), b] := by
      refine ⟨j, I r.act, .sl (r.bs.map Bx.row), rfl, ?_⟩
      rw [Nat.sub_zero] at hj
      rw [List.getElem?_map, hj]
      show some r.row = _
      simp only [Ru.row, htg]
      rfl
    have hms := (Bx.swap_both hmk.1 hmk.2).1
    clear hme hyo hyf hfb hq
    obtain ⟨xf, xh, xa0, xb0, xa1, xb1, xp0, xp1, xl0, xl1, xr0, xr1⟩ := x
    exact hs (VaA.mk ((l.take 200).map byteRow) (l.map byteRow) (ra.map Ru.row) (rb.map Ru.row) (fun k n => nxV (l.take 200) k.toNat n) (fun k => (nxA (l.take 200) k.toNat : Nat)) (gk : Nat) (i : Int) xf xh xa0 xb0 xa1 xb1 xp0 xp1 xl0 xl1 xr0 xr1 (j : Nat) m.f m.h m.a0 m.b0 m.a1 m.b1 m.p0 m.p1 m.l0 m.l1 m.r0 m.r1) n hn rfl ⟨⟨hN, Int.natCast_nonneg _, h14, ho, hf, hra, hsh, ⟨rb, rfl, by omega, fun r hr => (hrf r hr).len⟩⟩, h97, hmk.1, hmk.2, hms, hrow, hv⟩ h37
end Go.Proofs.YtknbgkfojmedpaaGreat
