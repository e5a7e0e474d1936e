/- Boxes, rules and looking them up, on the machine. Conditions: none. -/
import Derived.Test.YtgiciiknagelhaaVe
import Derived.Test.YtgiciiknagelhaaDnx
set_option linter.unusedSimpArgs false
namespace Go.Proofs.Ytgiciiknagelhaa
open Go.VM
def cmpI (a b : Int) : Int := if a < b then -1 else if b < a then 1 else 0
theorem e135 (a : Int) : CV VP 224 [.d (I a)] [] = some ⟨.d (B false), [], [], 0⟩ := by
  refine CV_run (vf := vf224) rfl rfl ?_
  rw [vf224_start]
  (repeat (first
    | refine RX_seq ?_
    | refine RX_block ?_
    | ((first | refine RX_reg ?_ | refine RX_cond' ?_ | refine RX_draw0 ?_ | refine RX_draw rfl ?_ | refine RX_skip ?_ | refine RX_gfrz ?_ | refine RX_exit ?_ | refine RX_ret ?_); try (simp only [go_sem, Nat.max_zero, List.isEmpty_cons, Int.reduceToNat, Nat.reducePow, Int.reduceEq, Int.reduceNe, Int.reduceLT, Int.reduceLE, Nat.reduceAdd, Nat.reduceLeDiff, ↓reduceIte, Nat.reduceLT, Nat.reduceMul, Nat.reduceSub, reduceCtorEq, frzLoc, rowCells, vAppM, beq_iff_eq, bne_iff_ne, bne_self_eq_false, beq_self_eq_true, beq_true, beq_false, I, B, w, vf224_res, vf224_keep]))))
theorem e136 (a : Int) : CV VP 225 [.d (U a)] [] = some ⟨.d (B false), [], [], 0⟩ := by
  refine CV_run (vf := vf225) rfl rfl ?_
  rw [vf225_start]
  (repeat (first
    | refine RX_seq ?_
    | refine RX_block ?_
    | ((first | refine RX_reg ?_ | refine RX_cond' ?_ | refine RX_draw0 ?_ | refine RX_draw rfl ?_ | refine RX_skip ?_ | refine RX_gfrz ?_ | refine RX_exit ?_ | refine RX_ret ?_); try (simp only [go_sem, Nat.max_zero, List.isEmpty_cons, Int.reduceToNat, Nat.reducePow, Int.reduceEq, Int.reduceNe, Int.reduceLT, Int.reduceLE, Nat.reduceAdd, Nat.reduceLeDiff, ↓reduceIte, Nat.reduceLT, Nat.reduceMul, Nat.reduceSub, reduceCtorEq, frzLoc, rowCells, vAppM, beq_iff_eq, bne_iff_ne, bne_self_eq_false, beq_self_eq_true, beq_true, beq_false, I, B, w, vf225_res, vf225_keep]))))
theorem e133 (a b : Int) : CV VP 215 [.d (I a), .d (I b)] [] = some ⟨.d (I (cmpI a b)), [], [], 0⟩ := by
  unfold cmpI
  refine CV_run (vf := vf215) rfl rfl ?_
  rw [vf215_start]
  by_cases h1 : a < b
  · (repeat (first
    | refine RX_seq ?_
    | refine RX_block ?_
    | ((first | refine RX_reg ?_ | refine RX_cond' ?_ | refine RX_draw0 ?_ | refine RX_draw rfl ?_ | refine RX_skip ?_ | refine RX_gfrz ?_ | refine RX_exit ?_ | refine RX_ret ?_); try (simp only [go_sem, Nat.max_zero, List.isEmpty_cons, Int.reduceToNat, Nat.reducePow, Int.reduceEq, Int.reduceNe, Int.reduceLT, Int.reduceLE, Nat.reduceAdd, Nat.reduceLeDiff, ↓reduceIte, Nat.reduceLT, Nat.reduceMul, Nat.reduceSub, reduceCtorEq, frzLoc, rowCells, vAppM, beq_iff_eq, bne_iff_ne, bne_self_eq_false, beq_self_eq_true, beq_true, beq_false, I, B, w, vf215_res, vf215_keep, e135, h1]))))
  · by_cases h2 : b < a
    · (repeat (first
    | refine RX_seq ?_
    | refine RX_block ?_
    | ((first | refine RX_reg ?_ | refine RX_cond' ?_ | refine RX_draw0 ?_ | refine RX_draw rfl ?_ | refine RX_skip ?_ | refine RX_gfrz ?_ | refine RX_exit ?_ | refine RX_ret ?_); try (simp only [go_sem, Nat.max_zero, List.isEmpty_cons, Int.reduceToNat, Nat.reducePow, Int.reduceEq, Int.reduceNe, Int.reduceLT, Int.reduceLE, Nat.reduceAdd, Nat.reduceLeDiff, ↓reduceIte, Nat.reduceLT, Nat.reduceMul, Nat.reduceSub, reduceCtorEq, frzLoc, rowCells, vAppM, beq_iff_eq, bne_iff_ne, bne_self_eq_false, beq_self_eq_true, beq_true, beq_false, I, B, w, vf215_res, vf215_keep, e135, h1, h2, gt_iff_lt]))))
    · (repeat (first
    | refine RX_seq ?_
    | refine RX_block ?_
    | ((first | refine RX_reg ?_ | refine RX_cond' ?_ | refine RX_draw0 ?_ | refine RX_draw rfl ?_ | refine RX_skip ?_ | refine RX_gfrz ?_ | refine RX_exit ?_ | refine RX_ret ?_); try (simp only [go_sem, Nat.max_zero, List.isEmpty_cons, Int.reduceToNat, Nat.reducePow, Int.reduceEq, Int.reduceNe, Int.reduceLT, Int.reduceLE, Nat.reduceAdd, Nat.reduceLeDiff, ↓reduceIte, Nat.reduceLT, Nat.reduceMul, Nat.reduceSub, reduceCtorEq, frzLoc, rowCells, vAppM, beq_iff_eq, bne_iff_ne, bne_self_eq_false, beq_self_eq_true, beq_true, beq_false, I, B, w, vf215_res, vf215_keep, e135, h1, h2, gt_iff_lt]))))
theorem e134 (a b : Int) : CV VP 216 [.d (U a), .d (U b)] [] = some ⟨.d (I (cmpI a b)), [], [], 0⟩ := by
  unfold cmpI
  refine CV_run (vf := vf216) rfl rfl ?_
  rw [vf216_start]
  by_cases h1 : a < b
  · (repeat (first
    | refine RX_seq ?_
    | refine RX_block ?_
    | ((first | refine RX_reg ?_ | refine RX_cond' ?_ | refine RX_draw0 ?_ | refine RX_draw rfl ?_ | refine RX_skip ?_ | refine RX_gfrz ?_ | refine RX_exit ?_ | refine RX_ret ?_); try (simp only [go_sem, Nat.max_zero, List.isEmpty_cons, Int.reduceToNat, Nat.reducePow, Int.reduceEq, Int.reduceNe, Int.reduceLT, Int.reduceLE, Nat.reduceAdd, Nat.reduceLeDiff, ↓reduceIte, Nat.reduceLT, Nat.reduceMul, Nat.reduceSub, reduceCtorEq, frzLoc, rowCells, vAppM, beq_iff_eq, bne_iff_ne, bne_self_eq_false, beq_self_eq_true, beq_true, beq_false, I, B, w, vf216_res, vf216_keep, e136, h1]))))
  · by_cases h2 : b < a
    · (repeat (first
    | refine RX_seq ?_
    | refine RX_block ?_
    | ((first | refine RX_reg ?_ | refine RX_cond' ?_ | refine RX_draw0 ?_ | refine RX_draw rfl ?_ | refine RX_skip ?_ | refine RX_gfrz ?_ | refine RX_exit ?_ | refine RX_ret ?_); try (simp only [go_sem, Nat.max_zero, List.isEmpty_cons, Int.reduceToNat, Nat.reducePow, Int.reduceEq, Int.reduceNe, Int.reduceLT, Int.reduceLE, Nat.reduceAdd, Nat.reduceLeDiff, ↓reduceIte, Nat.reduceLT, Nat.reduceMul, Nat.reduceSub, reduceCtorEq, frzLoc, rowCells, vAppM, beq_iff_eq, bne_iff_ne, bne_self_eq_false, beq_self_eq_true, beq_true, beq_false, I, B, w, vf216_res, vf216_keep, e136, h1, h2, gt_iff_lt]))))
    · (repeat (first
    | refine RX_seq ?_
    | refine RX_block ?_
    | ((first | refine RX_reg ?_ | refine RX_cond' ?_ | refine RX_draw0 ?_ | refine RX_draw rfl ?_ | refine RX_skip ?_ | refine RX_gfrz ?_ | refine RX_exit ?_ | refine RX_ret ?_); try (simp only [go_sem, Nat.max_zero, List.isEmpty_cons, Int.reduceToNat, Nat.reducePow, Int.reduceEq, Int.reduceNe, Int.reduceLT, Int.reduceLE, Nat.reduceAdd, Nat.reduceLeDiff, ↓reduceIte, Nat.reduceLT, Nat.reduceMul, Nat.reduceSub, reduceCtorEq, frzLoc, rowCells, vAppM, beq_iff_eq, bne_iff_ne, bne_self_eq_false, beq_self_eq_true, beq_true, beq_false, I, B, w, vf216_res, vf216_keep, e136, h1, h2, gt_iff_lt]))))
def or3 (a b c : Int) : Int := if a ≠ 0 then a else if b ≠ 0 then b else c
theorem e132 (a b c : Int) : CV VP 214 [.d (.sl [[I a], [I b], [I c]])] [] = some ⟨.d (I (or3 a b c)), [], [], 0⟩ := by
  unfold or3
  refine CV_run (vf := vf214) rfl rfl ?_
  rw [vf214_start]
  have w1 : IntKind.i64.wrap (0 + 1) = 1 := rfl
  have w2 : IntKind.i64.wrap (1 + 1) = 2 := rfl
  have w3 : IntKind.i64.wrap (2 + 1) = 3 := rfl
  by_cases h1 : a = 0
  · by_cases h2 : b = 0
    · by_cases h3 : c = 0
      · (repeat (first
    | refine RX_seq ?_
    | refine RX_block ?_
    | ((first | refine RX_reg ?_ | refine RX_cond' ?_ | refine RX_draw0 ?_ | refine RX_draw rfl ?_ | refine RX_skip ?_ | refine RX_gfrz ?_ | refine RX_exit ?_ | refine RX_ret ?_); try (simp only [go_sem, Nat.max_zero, List.isEmpty_cons, Int.reduceToNat, Nat.reducePow, Int.reduceEq, Int.reduceNe, Int.reduceLT, Int.reduceLE, Nat.reduceAdd, Nat.reduceLeDiff, ↓reduceIte, Nat.reduceLT, Nat.reduceMul, Nat.reduceSub, reduceCtorEq, frzLoc, rowCells, vAppM, beq_iff_eq, bne_iff_ne, bne_self_eq_false, beq_self_eq_true, beq_true, beq_false, I, B, w, vf214_res, vf214_keep, h1, h2, h3]))))
        refine RX_loop ?_
        (refine RL_head ?_; (simp only [go_sem, Nat.max_zero, List.isEmpty_cons, Int.reduceToNat, Nat.reducePow, Int.reduceEq, Int.reduceNe, Int.reduceLT, Int.reduceLE, Nat.reduceAdd, Nat.reduceLeDiff, ↓reduceIte, Nat.reduceLT, Nat.reduceMul, Nat.reduceSub, reduceCtorEq, frzLoc, rowCells, vAppM, beq_iff_eq, bne_iff_ne, bne_self_eq_false, beq_self_eq_true, beq_true, beq_false, I, B, w, St.head, forget, vf214K0, RLK_some, vf214_res, vf214_keep, h1, h2, h3, w1]); refine vf214L0_go ?_; ((repeat (first
    | refine RX_seq ?_
    | refine RX_block ?_
    | ((first | refine RX_reg ?_ | refine RX_cond' ?_ | refine RX_draw0 ?_ | refine RX_draw rfl ?_ | refine RX_skip ?_ | refine RX_gfrz ?_ | refine RX_exit ?_ | refine RX_ret ?_); try (simp only [go_sem, Nat.max_zero, List.isEmpty_cons, Int.reduceToNat, Nat.reducePow, Int.reduceEq, Int.reduceNe, Int.reduceLT, Int.reduceLE, Nat.reduceAdd, Nat.reduceLeDiff, ↓reduceIte, Nat.reduceLT, Nat.reduceMul, Nat.reduceSub, reduceCtorEq, frzLoc, rowCells, vAppM, beq_iff_eq, bne_iff_ne, bne_self_eq_false, beq_self_eq_true, beq_true, beq_false, I, B, w, vf214_res, vf214_keep, h1, h2, h3, w1]))))))
        (refine RL_head ?_; (simp only [go_sem, Nat.max_zero, List.isEmpty_cons, Int.reduceToNat, Nat.reducePow, Int.reduceEq, Int.reduceNe, Int.reduceLT, Int.reduceLE, Nat.reduceAdd, Nat.reduceLeDiff, ↓reduceIte, Nat.reduceLT, Nat.reduceMul, Nat.reduceSub, reduceCtorEq, frzLoc, rowCells, vAppM, beq_iff_eq, bne_iff_ne, bne_self_eq_false, beq_self_eq_true, beq_true, beq_false, I, B, w, St.head, forget, vf214K0, RLK_some, vf214_res, vf214_keep, h1, h2, h3, w2]); refine vf214L0_go ?_; ((repeat (first
    | refine RX_seq ?_
    | refine RX_block ?_
    | ((first | refine RX_reg ?_ | refine RX_cond' ?_ | refine RX_draw0 ?_ | refine RX_draw rfl ?_ | refine RX_skip ?_ | refine RX_gfrz ?_ | refine RX_exit ?_ | refine RX_ret ?_); try (simp only [go_sem, Nat.max_zero, List.isEmpty_cons, Int.reduceToNat, Nat.reducePow, Int.reduceEq, Int.reduceNe, Int.reduceLT, Int.reduceLE, Nat.reduceAdd, Nat.reduceLeDiff, ↓reduceIte, Nat.reduceLT, Nat.reduceMul, Nat.reduceSub, reduceCtorEq, frzLoc, rowCells, vAppM, beq_iff_eq, bne_iff_ne, bne_self_eq_false, beq_self_eq_true, beq_true, beq_false, I, B, w, vf214_res, vf214_keep, h1, h2, h3, w2]))))))
        (refine RL_head ?_; (simp only [go_sem, Nat.max_zero, List.isEmpty_cons, Int.reduceToNat, Nat.reducePow, Int.reduceEq, Int.reduceNe, Int.reduceLT, Int.reduceLE, Nat.reduceAdd, Nat.reduceLeDiff, ↓reduceIte, Nat.reduceLT, Nat.reduceMul, Nat.reduceSub, reduceCtorEq, frzLoc, rowCells, vAppM, beq_iff_eq, bne_iff_ne, bne_self_eq_false, beq_self_eq_true, beq_true, beq_false, I, B, w, St.head, forget, vf214K0, RLK_some, vf214_res, vf214_keep, h1, h2, h3, w3]); refine vf214L0_go ?_; ((repeat (first
    | refine RX_seq ?_
    | refine RX_block ?_
    | ((first | refine RX_reg ?_ | refine RX_cond' ?_ | refine RX_draw0 ?_ | refine RX_draw rfl ?_ | refine RX_skip ?_ | refine RX_gfrz ?_ | refine RX_exit ?_ | refine RX_ret ?_); try (simp only [go_sem, Nat.max_zero, List.isEmpty_cons, Int.reduceToNat, Nat.reducePow, Int.reduceEq, Int.reduceNe, Int.reduceLT, Int.reduceLE, Nat.reduceAdd, Nat.reduceLeDiff, ↓reduceIte, Nat.reduceLT, Nat.reduceMul, Nat.reduceSub, reduceCtorEq, frzLoc, rowCells, vAppM, beq_iff_eq, bne_iff_ne, bne_self_eq_false, beq_self_eq_true, beq_true, beq_false, I, B, w, vf214_res, vf214_keep, h1, h2, h3, w3]))))))
        (refine RL_head ?_; (simp only [go_sem, Nat.max_zero, List.isEmpty_cons, Int.reduceToNat, Nat.reducePow, Int.reduceEq, Int.reduceNe, Int.reduceLT, Int.reduceLE, Nat.reduceAdd, Nat.reduceLeDiff, ↓reduceIte, Nat.reduceLT, Nat.reduceMul, Nat.reduceSub, reduceCtorEq, frzLoc, rowCells, vAppM, beq_iff_eq, bne_iff_ne, bne_self_eq_false, beq_self_eq_true, beq_true, beq_false, I, B, w, St.head, forget, vf214K0, RLK_some, vf214_res, vf214_keep, h1, h2, h3]); refine vf214L0_go ?_; ((repeat (first
    | refine RX_seq ?_
    | refine RX_block ?_
    | ((first | refine RX_reg ?_ | refine RX_cond' ?_ | refine RX_draw0 ?_ | refine RX_draw rfl ?_ | refine RX_skip ?_ | refine RX_gfrz ?_ | refine RX_exit ?_ | refine RX_ret ?_); try (simp only [go_sem, Nat.max_zero, List.isEmpty_cons, Int.reduceToNat, Nat.reducePow, Int.reduceEq, Int.reduceNe, Int.reduceLT, Int.reduceLE, Nat.reduceAdd, Nat.reduceLeDiff, ↓reduceIte, Nat.reduceLT, Nat.reduceMul, Nat.reduceSub, reduceCtorEq, frzLoc, rowCells, vAppM, beq_iff_eq, bne_iff_ne, bne_self_eq_false, beq_self_eq_true, beq_true, beq_false, I, B, w, vf214_res, vf214_keep, h1, h2, h3]))))))
      · (repeat (first
    | refine RX_seq ?_
    | refine RX_block ?_
    | ((first | refine RX_reg ?_ | refine RX_cond' ?_ | refine RX_draw0 ?_ | refine RX_draw rfl ?_ | refine RX_skip ?_ | refine RX_gfrz ?_ | refine RX_exit ?_ | refine RX_ret ?_); try (simp only [go_sem, Nat.max_zero, List.isEmpty_cons, Int.reduceToNat, Nat.reducePow, Int.reduceEq, Int.reduceNe, Int.reduceLT, Int.reduceLE, Nat.reduceAdd, Nat.reduceLeDiff, ↓reduceIte, Nat.reduceLT, Nat.reduceMul, Nat.reduceSub, reduceCtorEq, frzLoc, rowCells, vAppM, beq_iff_eq, bne_iff_ne, bne_self_eq_false, beq_self_eq_true, beq_true, beq_false, I, B, w, vf214_res, vf214_keep, h1, h2, h3]))))
        refine RX_loop ?_
        (refine RL_head ?_; (simp only [go_sem, Nat.max_zero, List.isEmpty_cons, Int.reduceToNat, Nat.reducePow, Int.reduceEq, Int.reduceNe, Int.reduceLT, Int.reduceLE, Nat.reduceAdd, Nat.reduceLeDiff, ↓reduceIte, Nat.reduceLT, Nat.reduceMul, Nat.reduceSub, reduceCtorEq, frzLoc, rowCells, vAppM, beq_iff_eq, bne_iff_ne, bne_self_eq_false, beq_self_eq_true, beq_true, beq_false, I, B, w, St.head, forget, vf214K0, RLK_some, vf214_res, vf214_keep, h1, h2, h3, w1]); refine vf214L0_go ?_; ((repeat (first
    | refine RX_seq ?_
    | refine RX_block ?_
    | ((first | refine RX_reg ?_ | refine RX_cond' ?_ | refine RX_draw0 ?_ | refine RX_draw rfl ?_ | refine RX_skip ?_ | refine RX_gfrz ?_ | refine RX_exit ?_ | refine RX_ret ?_); try (simp only [go_sem, Nat.max_zero, List.isEmpty_cons, Int.reduceToNat, Nat.reducePow, Int.reduceEq, Int.reduceNe, Int.reduceLT, Int.reduceLE, Nat.reduceAdd, Nat.reduceLeDiff, ↓reduceIte, Nat.reduceLT, Nat.reduceMul, Nat.reduceSub, reduceCtorEq, frzLoc, rowCells, vAppM, beq_iff_eq, bne_iff_ne, bne_self_eq_false, beq_self_eq_true, beq_true, beq_false, I, B, w, vf214_res, vf214_keep, h1, h2, h3, w1]))))))
        (refine RL_head ?_; (simp only [go_sem, Nat.max_zero, List.isEmpty_cons, Int.reduceToNat, Nat.reducePow, Int.reduceEq, Int.reduceNe, Int.reduceLT, Int.reduceLE, Nat.reduceAdd, Nat.reduceLeDiff, ↓reduceIte, Nat.reduceLT, Nat.reduceMul, Nat.reduceSub, reduceCtorEq, frzLoc, rowCells, vAppM, beq_iff_eq, bne_iff_ne, bne_self_eq_false, beq_self_eq_true, beq_true, beq_false, I, B, w, St.head, forget, vf214K0, RLK_some, vf214_res, vf214_keep, h1, h2, h3, w2]); refine vf214L0_go ?_; ((repeat (first
    | refine RX_seq ?_
    | refine RX_block ?_
    | ((first | refine RX_reg ?_ | refine RX_cond' ?_ | refine RX_draw0 ?_ | refine RX_draw rfl ?_ | refine RX_skip ?_ | refine RX_gfrz ?_ | refine RX_exit ?_ | refine RX_ret ?_); try (simp only [go_sem, Nat.max_zero, List.isEmpty_cons, Int.reduceToNat, Nat.reducePow, Int.reduceEq, Int.reduceNe, Int.reduceLT, Int.reduceLE, Nat.reduceAdd, Nat.reduceLeDiff, ↓reduceIte, Nat.reduceLT, Nat.reduceMul, Nat.reduceSub, reduceCtorEq, frzLoc, rowCells, vAppM, beq_iff_eq, bne_iff_ne, bne_self_eq_false, beq_self_eq_true, beq_true, beq_false, I, B, w, vf214_res, vf214_keep, h1, h2, h3, w2]))))))
        (refine RL_head ?_; (simp only [go_sem, Nat.max_zero, List.isEmpty_cons, Int.reduceToNat, Nat.reducePow, Int.reduceEq, Int.reduceNe, Int.reduceLT, Int.reduceLE, Nat.reduceAdd, Nat.reduceLeDiff, ↓reduceIte, Nat.reduceLT, Nat.reduceMul, Nat.reduceSub, reduceCtorEq, frzLoc, rowCells, vAppM, beq_iff_eq, bne_iff_ne, bne_self_eq_false, beq_self_eq_true, beq_true, beq_false, I, B, w, St.head, forget, vf214K0, RLK_some, vf214_res, vf214_keep, h1, h2, h3]); refine vf214L0_go ?_; ((repeat (first
    | refine RX_seq ?_
    | refine RX_block ?_
    | ((first | refine RX_reg ?_ | refine RX_cond' ?_ | refine RX_draw0 ?_ | refine RX_draw rfl ?_ | refine RX_skip ?_ | refine RX_gfrz ?_ | refine RX_exit ?_ | refine RX_ret ?_); try (simp only [go_sem, Nat.max_zero, List.isEmpty_cons, Int.reduceToNat, Nat.reducePow, Int.reduceEq, Int.reduceNe, Int.reduceLT, Int.reduceLE, Nat.reduceAdd, Nat.reduceLeDiff, ↓reduceIte, Nat.reduceLT, Nat.reduceMul, Nat.reduceSub, reduceCtorEq, frzLoc, rowCells, vAppM, beq_iff_eq, bne_iff_ne, bne_self_eq_false, beq_self_eq_true, beq_true, beq_false, I, B, w, vf214_res, vf214_keep, h1, h2, h3]))))))
    · (repeat (first
    | refine RX_seq ?_
    | refine RX_block ?_
    | ((first | refine RX_reg ?_ | refine RX_cond' ?_ | refine RX_draw0 ?_ | refine RX_draw rfl ?_ | refine RX_skip ?_ | refine RX_gfrz ?_ | refine RX_exit ?_ | refine RX_ret ?_); try (simp only [go_sem, Nat.max_zero, List.isEmpty_cons, Int.reduceToNat, Nat.reducePow, Int.reduceEq, Int.reduceNe, Int.reduceLT, Int.reduceLE, Nat.reduceAdd, Nat.reduceLeDiff, ↓reduceIte, Nat.reduceLT, Nat.reduceMul, Nat.reduceSub, reduceCtorEq, frzLoc, rowCells, vAppM, beq_iff_eq, bne_iff_ne, bne_self_eq_false, beq_self_eq_true, beq_true, beq_false, I, B, w, vf214_res, vf214_keep, h1, h2]))))
      refine RX_loop ?_
      (refine RL_head ?_; (simp only [go_sem, Nat.max_zero, List.isEmpty_cons, Int.reduceToNat, Nat.reducePow, Int.reduceEq, Int.reduceNe, Int.reduceLT, Int.reduceLE, Nat.reduceAdd, Nat.reduceLeDiff, ↓reduceIte, Nat.reduceLT, Nat.reduceMul, Nat.reduceSub, reduceCtorEq, frzLoc, rowCells, vAppM, beq_iff_eq, bne_iff_ne, bne_self_eq_false, beq_self_eq_true, beq_true, beq_false, I, B, w, St.head, forget, vf214K0, RLK_some, vf214_res, vf214_keep, h1, h2, w1]); refine vf214L0_go ?_; ((repeat (first
    | refine RX_seq ?_
    | refine RX_block ?_
    | ((first | refine RX_reg ?_ | refine RX_cond' ?_ | refine RX_draw0 ?_ | refine RX_draw rfl ?_ | refine RX_skip ?_ | refine RX_gfrz ?_ | refine RX_exit ?_ | refine RX_ret ?_); try (simp only [go_sem, Nat.max_zero, List.isEmpty_cons, Int.reduceToNat, Nat.reducePow, Int.reduceEq, Int.reduceNe, Int.reduceLT, Int.reduceLE, Nat.reduceAdd, Nat.reduceLeDiff, ↓reduceIte, Nat.reduceLT, Nat.reduceMul, Nat.reduceSub, reduceCtorEq, frzLoc, rowCells, vAppM, beq_iff_eq, bne_iff_ne, bne_self_eq_false, beq_self_eq_true, beq_true, beq_false, I, B, w, vf214_res, vf214_keep, h1, h2, w1]))))))
      (refine RL_head ?_; (simp only [go_sem, Nat.max_zero, List.isEmpty_cons, Int.reduceToNat, Nat.reducePow, Int.reduceEq, Int.reduceNe, Int.reduceLT, Int.reduceLE, Nat.reduceAdd, Nat.reduceLeDiff, ↓reduceIte, Nat.reduceLT, Nat.reduceMul, Nat.reduceSub, reduceCtorEq, frzLoc, rowCells, vAppM, beq_iff_eq, bne_iff_ne, bne_self_eq_false, beq_self_eq_true, beq_true, beq_false, I, B, w, St.head, forget, vf214K0, RLK_some, vf214_res, vf214_keep, h1, h2, w2]); refine vf214L0_go ?_; ((repeat (first
    | refine RX_seq ?_
    | refine RX_block ?_
    | ((first | refine RX_reg ?_ | refine RX_cond' ?_ | refine RX_draw0 ?_ | refine RX_draw rfl ?_ | refine RX_skip ?_ | refine RX_gfrz ?_ | refine RX_exit ?_ | refine RX_ret ?_); try (simp only [go_sem, Nat.max_zero, List.isEmpty_cons, Int.reduceToNat, Nat.reducePow, Int.reduceEq, Int.reduceNe, Int.reduceLT, Int.reduceLE, Nat.reduceAdd, Nat.reduceLeDiff, ↓reduceIte, Nat.reduceLT, Nat.reduceMul, Nat.reduceSub, reduceCtorEq, frzLoc, rowCells, vAppM, beq_iff_eq, bne_iff_ne, bne_self_eq_false, beq_self_eq_true, beq_true, beq_false, I, B, w, vf214_res, vf214_keep, h1, h2, w2]))))))
  · (repeat (first
    | refine RX_seq ?_
    | refine RX_block ?_
    | ((first | refine RX_reg ?_ | refine RX_cond' ?_ | refine RX_draw0 ?_ | refine RX_draw rfl ?_ | refine RX_skip ?_ | refine RX_gfrz ?_ | refine RX_exit ?_ | refine RX_ret ?_); try (simp only [go_sem, Nat.max_zero, List.isEmpty_cons, Int.reduceToNat, Nat.reducePow, Int.reduceEq, Int.reduceNe, Int.reduceLT, Int.reduceLE, Nat.reduceAdd, Nat.reduceLeDiff, ↓reduceIte, Nat.reduceLT, Nat.reduceMul, Nat.reduceSub, reduceCtorEq, frzLoc, rowCells, vAppM, beq_iff_eq, bne_iff_ne, bne_self_eq_false, beq_self_eq_true, beq_true, beq_false, I, B, w, vf214_res, vf214_keep, h1]))))
    refine RX_loop ?_
    (refine RL_head ?_; (simp only [go_sem, Nat.max_zero, List.isEmpty_cons, Int.reduceToNat, Nat.reducePow, Int.reduceEq, Int.reduceNe, Int.reduceLT, Int.reduceLE, Nat.reduceAdd, Nat.reduceLeDiff, ↓reduceIte, Nat.reduceLT, Nat.reduceMul, Nat.reduceSub, reduceCtorEq, frzLoc, rowCells, vAppM, beq_iff_eq, bne_iff_ne, bne_self_eq_false, beq_self_eq_true, beq_true, beq_false, I, B, w, St.head, forget, vf214K0, RLK_some, vf214_res, vf214_keep, h1, w1]); refine vf214L0_go ?_; ((repeat (first
    | refine RX_seq ?_
    | refine RX_block ?_
    | ((first | refine RX_reg ?_ | refine RX_cond' ?_ | refine RX_draw0 ?_ | refine RX_draw rfl ?_ | refine RX_skip ?_ | refine RX_gfrz ?_ | refine RX_exit ?_ | refine RX_ret ?_); try (simp only [go_sem, Nat.max_zero, List.isEmpty_cons, Int.reduceToNat, Nat.reducePow, Int.reduceEq, Int.reduceNe, Int.reduceLT, Int.reduceLE, Nat.reduceAdd, Nat.reduceLeDiff, ↓reduceIte, Nat.reduceLT, Nat.reduceMul, Nat.reduceSub, reduceCtorEq, frzLoc, rowCells, vAppM, beq_iff_eq, bne_iff_ne, bne_self_eq_false, beq_self_eq_true, beq_true, beq_false, I, B, w, vf214_res, vf214_keep, h1, w1]))))))
theorem e131 (f h a f' h' b : Int) : CV VP 195 [.agg [.d (I f), .d (U h), .d (U a)], .agg [.d (I f'), .d (U h'), .d (U b)]] [] = some ⟨.d (I (or3 (cmpI f f') (cmpI h h') (cmpI a b))), [], [], 0⟩ := by
  refine CV_run (vf := vf195) rfl rfl ?_
  rw [vf195_start]
  (repeat (first
    | refine RX_seq ?_
    | refine RX_block ?_
    | ((first | refine RX_reg ?_ | refine RX_cond' ?_ | refine RX_draw0 ?_ | refine RX_draw rfl ?_ | refine RX_skip ?_ | refine RX_gfrz ?_ | refine RX_exit ?_ | refine RX_ret ?_); try (simp only [go_sem, Nat.max_zero, List.isEmpty_cons, Int.reduceToNat, Nat.reducePow, Int.reduceEq, Int.reduceNe, Int.reduceLT, Int.reduceLE, Nat.reduceAdd, Nat.reduceLeDiff, ↓reduceIte, Nat.reduceLT, Nat.reduceMul, Nat.reduceSub, reduceCtorEq, frzLoc, rowCells, vAppM, beq_iff_eq, bne_iff_ne, bne_self_eq_false, beq_self_eq_true, beq_true, beq_false, I, B, w, vf195_res, vf195_keep, e133, e134, e132]))))
theorem e130 (n : Int) : CV VP 176 [.d (I n)] [] = some ⟨.agg [.d (I 0), .d (U 0), .d (U (IntKind.u64.wrap (IntKind.i64.wrap (n + 1))))], [], [], 0⟩ := by
  refine CV_run (vf := vf176) rfl rfl ?_
  rw [vf176_start]
  (repeat (first
    | refine RX_seq ?_
    | refine RX_block ?_
    | ((first | refine RX_reg ?_ | refine RX_cond' ?_ | refine RX_draw0 ?_ | refine RX_draw rfl ?_ | refine RX_skip ?_ | refine RX_gfrz ?_ | refine RX_exit ?_ | refine RX_ret ?_); try (simp only [go_sem, Nat.max_zero, List.isEmpty_cons, Int.reduceToNat, Nat.reducePow, Int.reduceEq, Int.reduceNe, Int.reduceLT, Int.reduceLE, Nat.reduceAdd, Nat.reduceLeDiff, ↓reduceIte, Nat.reduceLT, Nat.reduceMul, Nat.reduceSub, reduceCtorEq, frzLoc, rowCells, vAppM, beq_iff_eq, bne_iff_ne, bne_self_eq_false, beq_self_eq_true, beq_true, beq_false, I, B, w, vf176_res, vf176_keep]))))
theorem e124 (f h a : Int) : CV VP 175 [.agg [.d (I f), .d (U h), .d (U a)]] [] = some ⟨.agg [.d (I f), .d (U h), .d (U a)], [], [], 0⟩ := by
  refine CV_run (vf := vf175) rfl rfl ?_
  rw [vf175_start]
  (repeat (first
    | refine RX_seq ?_
    | refine RX_block ?_
    | ((first | refine RX_reg ?_ | refine RX_cond' ?_ | refine RX_draw0 ?_ | refine RX_draw rfl ?_ | refine RX_skip ?_ | refine RX_gfrz ?_ | refine RX_exit ?_ | refine RX_ret ?_); try (simp only [go_sem, Nat.max_zero, List.isEmpty_cons, Int.reduceToNat, Nat.reducePow, Int.reduceEq, Int.reduceNe, Int.reduceLT, Int.reduceLE, Nat.reduceAdd, Nat.reduceLeDiff, ↓reduceIte, Nat.reduceLT, Nat.reduceMul, Nat.reduceSub, reduceCtorEq, frzLoc, rowCells, vAppM, beq_iff_eq, bne_iff_ne, bne_self_eq_false, beq_self_eq_true, beq_true, beq_false, I, B, w, vf175_res, vf175_keep]))))
theorem e125 (m n : Int) : CV VP 194 [.d (I m), .d (I n)] [] = some ⟨.agg [.d (I 0), .d (U 0), .d (U (IntKind.u64.wrap (IntKind.i64.wrap (m + 1)))), .d (I 0), .d (U 0), .d (U (IntKind.u64.wrap (IntKind.i64.wrap (n + 1))))], [], [], 0⟩ := by
  refine CV_run (vf := vf194) rfl rfl ?_
  rw [vf194_start]
  (repeat (first
    | refine RX_seq ?_
    | refine RX_block ?_
    | ((first | refine RX_reg ?_ | refine RX_cond' ?_ | refine RX_draw0 ?_ | refine RX_draw rfl ?_ | refine RX_skip ?_ | refine RX_gfrz ?_ | refine RX_exit ?_ | refine RX_ret ?_); try (simp only [go_sem, Nat.max_zero, List.isEmpty_cons, Int.reduceToNat, Nat.reducePow, Int.reduceEq, Int.reduceNe, Int.reduceLT, Int.reduceLE, Nat.reduceAdd, Nat.reduceLeDiff, ↓reduceIte, Nat.reduceLT, Nat.reduceMul, Nat.reduceSub, reduceCtorEq, frzLoc, rowCells, vAppM, beq_iff_eq, bne_iff_ne, bne_self_eq_false, beq_self_eq_true, beq_true, beq_false, I, B, w, vf194_res, vf194_keep, e130]))))
end Go.Proofs.Ytgiciiknagelhaa
namespace Go.Proofs.Ytgiciiknagelhaa
open Go.VM
end Go.Proofs.Ytgiciiknagelhaa
namespace Go.Proofs.Ytgiciiknagelhaa
open Go.VM
theorem num_u {n : Int} (h : num n) : IntKind.u64.wrap (IntKind.i64.wrap (n + 1)) = n + 1 := by
  obtain ⟨h1, h2⟩ := h
  rw [w_in (by omega) (by omega)]
  simp [IntKind.wrap, IntKind.signed, IntKind.bits]
  omega
theorem e111 (f h a0 b0 a1 b1 p0 p1 l0 l1 r0 r1 : Int) (h1 : num p0) (h2 : num p1) (h3 : num l0) (h4 : num l1) (h5 : num r0) (h6 : num r1) :
    CV VP 177 [bxV f h a0 b0 a1 b1 p0 p1 l0 l1 r0 r1] [] = some ⟨.agg [.d (I f), .d (U h), .d (U a0), .d (I f), .d (U h), .d (U b0), .d (I f), .d (U h), .d (U a1), .d (I f), .d (U h), .d (U b1), .d (I 0), .d (U 0), .d (U (p0 + 1)), .d (I 0), .d (U 0), .d (U (p1 + 1)), .d (I 0), .d (U 0), .d (U (l0 + 1)), .d (I 0), .d (U 0), .d (U (l1 + 1)), .d (I 0), .d (U 0), .d (U (r0 + 1)), .d (I 0), .d (U 0), .d (U (r1 + 1))], [], [], 0⟩ := by
  refine CV_run (vf := vf177) rfl rfl ?_
  rw [vf177_start]
  (repeat (first
    | refine RX_seq ?_
    | refine RX_block ?_
    | ((first | refine RX_reg ?_ | refine RX_cond' ?_ | refine RX_draw0 ?_ | refine RX_draw rfl ?_ | refine RX_skip ?_ | refine RX_gfrz ?_ | refine RX_exit ?_ | refine RX_ret ?_); try (simp only [go_sem, Nat.max_zero, List.isEmpty_cons, Int.reduceToNat, Nat.reducePow, Int.reduceEq, Int.reduceNe, Int.reduceLT, Int.reduceLE, Nat.reduceAdd, Nat.reduceLeDiff, ↓reduceIte, Nat.reduceLT, Nat.reduceMul, Nat.reduceSub, reduceCtorEq, frzLoc, rowCells, vAppM, beq_iff_eq, bne_iff_ne, bne_self_eq_false, beq_self_eq_true, beq_true, beq_false, I, B, w, vf177_res, vf177_keep, e124, e125, num_u h1, num_u h2, num_u h3, num_u h4, num_u h5, num_u h6]))))
end Go.Proofs.Ytgiciiknagelhaa
namespace Go.Proofs.Ytgiciiknagelhaa
open Go.VM
end Go.Proofs.Ytgiciiknagelhaa
namespace Go.Proofs.Ytgiciiknagelhaa
open Go.VM
def Bx.beq (x y : Bx) : Bool := decide (x.f = y.f) && (decide (x.h = y.h) && (decide (x.a0 = y.a0) && (decide (x.b0 = y.b0) && (decide (x.a1 = y.a1) && (decide (x.b1 = y.b1) && (decide (x.p0 = y.p0) && (decide (x.p1 = y.p1) && (decide (x.l0 = y.l0) && (decide (x.l1 = y.l1) && (decide (x.r0 = y.r0) && decide (x.r1 = y.r1)))))))))))
end Go.Proofs.Ytgiciiknagelhaa
namespace Go.Proofs.Ytgiciiknagelhaa
open Go.VM
instance (x y : Bx) : Decidable (x.over y) := by unfold Bx.over; infer_instance
end Go.Proofs.Ytgiciiknagelhaa
namespace Go.Proofs.Ytgiciiknagelhaa
open Go.VM
end Go.Proofs.Ytgiciiknagelhaa
set_option maxRecDepth 100000
namespace Go.Proofs.Ytgiciiknagelhaa
open Go.VM
end Go.Proofs.Ytgiciiknagelhaa
set_option maxRecDepth 100000
namespace Go.Proofs.Ytgiciiknagelhaa
open Go.VM
end Go.Proofs.Ytgiciiknagelhaa
set_option maxRecDepth 100000
namespace Go.Proofs.Ytgiciiknagelhaa
open Go.VM
end Go.Proofs.Ytgiciiknagelhaa
namespace Go.Proofs.Ytgiciiknagelhaa
open Go.VM
end Go.Proofs.Ytgiciiknagelhaa
set_option maxRecDepth 100000
namespace Go.Proofs.Ytgiciiknagelhaa
open Go.VM
end Go.Proofs.Ytgiciiknagelhaa
set_option linter.unusedVariables false
set_option maxRecDepth 100000
set_option maxHeartbeats 1000000
namespace Go.Proofs.Ytgiciiknagelhaa
open Go.VM
def sideB (lf lh la hf hh hb vf vh va : Int) : Bool := decide (or3 (cmpI lf vf) (cmpI lh vh) (cmpI la va) ≤ 0) && decide (or3 (cmpI vf hf) (cmpI vh hh) (cmpI va hb) ≤ 0)
theorem e178 (lf lh la hf hh hb vf vh va : Int) : CV VP 178 [.agg [.d (I lf), .d (U lh), .d (U la), .d (I hf), .d (U hh), .d (U hb)], .agg [.d (I vf), .d (U vh), .d (U va)]] [] = some ⟨.d (B (sideB lf lh la hf hh hb vf vh va)), [], [], 0⟩ := by
  refine CV_run (vf := vf178) rfl rfl ?_
  rw [vf178_start]
  unfold sideB
  by_cases h1 : or3 (cmpI lf vf) (cmpI lh vh) (cmpI la va) ≤ 0
  · (repeat (first
    | refine RX_seq ?_
    | refine RX_block ?_
    | ((first | refine RX_reg ?_ | refine RX_cond' ?_ | refine RX_draw0 ?_ | refine RX_draw rfl ?_ | refine RX_skip ?_ | refine RX_gfrz ?_ | refine RX_exit ?_ | refine RX_ret ?_); try (simp only [go_sem, Nat.max_zero, List.isEmpty_cons, Int.reduceToNat, Nat.reducePow, Int.reduceEq, Int.reduceNe, Int.reduceLT, Int.reduceLE, Nat.reduceAdd, Nat.reduceLeDiff, ↓reduceIte, Nat.reduceLT, Nat.reduceMul, Nat.reduceSub, reduceCtorEq, frzLoc, rowCells, vAppM, beq_iff_eq, bne_iff_ne, bne_self_eq_false, beq_self_eq_true, beq_true, beq_false, I, B, w, vf178_res, vf178_keep, e131, h1, decide_true, decide_false, Bool.true_and, Bool.false_and]))))
  · (repeat (first
    | refine RX_seq ?_
    | refine RX_block ?_
    | ((first | refine RX_reg ?_ | refine RX_cond' ?_ | refine RX_draw0 ?_ | refine RX_draw rfl ?_ | refine RX_skip ?_ | refine RX_gfrz ?_ | refine RX_exit ?_ | refine RX_ret ?_); try (simp only [go_sem, Nat.max_zero, List.isEmpty_cons, Int.reduceToNat, Nat.reducePow, Int.reduceEq, Int.reduceNe, Int.reduceLT, Int.reduceLE, Nat.reduceAdd, Nat.reduceLeDiff, ↓reduceIte, Nat.reduceLT, Nat.reduceMul, Nat.reduceSub, reduceCtorEq, frzLoc, rowCells, vAppM, beq_iff_eq, bne_iff_ne, bne_self_eq_false, beq_self_eq_true, beq_true, beq_false, I, B, w, vf178_res, vf178_keep, e131, h1, decide_true, decide_false, Bool.true_and, Bool.false_and]))))
theorem side_iff {f h a b vf vh va : Int} : sideB f h a f h b vf vh va = true ↔ f = vf ∧ h = vh ∧ a ≤ va ∧ va ≤ b := by
  unfold sideB or3 cmpI
  simp only [Bool.and_eq_true, decide_eq_true_eq]
  constructor
  · intro h
    obtain ⟨h1, h2⟩ := h
    split at h1 <;> split at h2 <;> (repeat' split at *) <;> omega
  · rintro ⟨rfl, rfl, h1, h2⟩
    simp
    omega
def sB (p q v : Int) : Bool := sideB 0 0 (p + 1) 0 0 (q + 1) 0 0 (v + 1)
def hasB (y : Bx) (F H A A1 pr sp tp : Int) : Bool := sideB y.f y.h y.a0 y.f y.h y.b0 F H A && (sideB y.f y.h y.a1 y.f y.h y.b1 F H A1 && (sB y.p0 y.p1 pr && (sB y.l0 y.l1 sp && sB y.r0 y.r1 tp)))
abbrev pkV (F H A A1 pr sp tp : Int) : V := .agg [.d (I F), .d (U H), .d (U A), .d (I F), .d (U H), .d (U A1), .d (I pr), .d (I sp), .d (I tp)]
set_option maxHeartbeats 4000000 in
theorem e146 (y : Bx) (hy : y.ok) (F H A A1 pr sp tp : Int) (h1 : num pr) (h2 : num sp) (h3 : num tp) : CV VP 146 [y.ag, pkV F H A A1 pr sp tp, .d (B true)] [] = some ⟨.d (B (hasB y F H A A1 pr sp tp)), [], [], 0⟩ := by
  have e1 := e111 y.f y.h y.a0 y.b0 y.a1 y.b1 y.p0 y.p1 y.l0 y.l1 y.r0 y.r1 hy.p0 hy.p1 hy.l0 hy.l1 hy.r0 hy.r1
  have w0 : IntKind.i64.wrap (0 + 1) = 1 := by decide
  have w1 : IntKind.i64.wrap (1 + 1) = 2 := by decide
  have w2 : IntKind.i64.wrap (2 + 1) = 3 := by decide
  have w3 : IntKind.i64.wrap (3 + 1) = 4 := by decide
  have w4 : IntKind.i64.wrap (4 + 1) = 5 := by decide
  refine CV_run (vf := vf146) rfl rfl ?_
  rw [vf146_start]
  unfold hasB sB
  cases hs1 : sideB y.f y.h y.a0 y.f y.h y.b0 F H A with
  | false =>
    (repeat' (first
    | refine RX_seq ?_
    | refine RX_block ?_
    | ((first | refine RX_reg ?_ | refine RX_cond' ?_ | refine RX_draw0 ?_ | refine RX_draw rfl ?_ | refine RX_skip ?_ | refine RX_gfrz ?_ | refine RX_exit ?_ | refine RX_ret ?_); try (simp only [go_sem, Nat.max_zero, List.isEmpty_cons, Int.reduceToNat, Nat.reducePow, Int.reduceEq, Int.reduceNe, Int.reduceLT, Int.reduceLE, Nat.reduceAdd, Nat.reduceLeDiff, ↓reduceIte, Nat.reduceLT, Nat.reduceMul, Nat.reduceSub, reduceCtorEq, frzLoc, rowCells, vAppM, bne_self_eq_false, beq_self_eq_true, beq_true, beq_false, I, B, w, ibeq, ibne, bbeq, decide_eq_false_iff_not, decide_not, Bool.not_not, Decidable.not_not, Bool.not_eq_eq_eq_not, gt_iff_lt, ge_iff_le, and_false, false_and, or_self, and_self, vf146_res, vf146_keep, e124, e130, e1, e178, num_u h1, num_u h2, num_u h3, hs1, w0, Bool.false_and, *]))
    | (refine ite_ngo (fun _ => ?_) (fun _ => ?_) <;> try (simp only [go_sem, Nat.max_zero, List.isEmpty_cons, Int.reduceToNat, Nat.reducePow, Int.reduceEq, Int.reduceNe, Int.reduceLT, Int.reduceLE, Nat.reduceAdd, Nat.reduceLeDiff, ↓reduceIte, Nat.reduceLT, Nat.reduceMul, Nat.reduceSub, reduceCtorEq, frzLoc, rowCells, vAppM, bne_self_eq_false, beq_self_eq_true, beq_true, beq_false, I, B, w, ibeq, ibne, bbeq, decide_eq_false_iff_not, decide_not, Bool.not_not, Decidable.not_not, Bool.not_eq_eq_eq_not, gt_iff_lt, ge_iff_le, and_false, false_and, or_self, and_self, vf146_res, vf146_keep, e124, e130, e1, e178, num_u h1, num_u h2, num_u h3, hs1, w0, Bool.false_and, *]))
    | (refine ite_go (fun _ => ?_) (fun _ => ?_) <;> try (simp only [go_sem, Nat.max_zero, List.isEmpty_cons, Int.reduceToNat, Nat.reducePow, Int.reduceEq, Int.reduceNe, Int.reduceLT, Int.reduceLE, Nat.reduceAdd, Nat.reduceLeDiff, ↓reduceIte, Nat.reduceLT, Nat.reduceMul, Nat.reduceSub, reduceCtorEq, frzLoc, rowCells, vAppM, bne_self_eq_false, beq_self_eq_true, beq_true, beq_false, I, B, w, ibeq, ibne, bbeq, decide_eq_false_iff_not, decide_not, Bool.not_not, Decidable.not_not, Bool.not_eq_eq_eq_not, gt_iff_lt, ge_iff_le, and_false, false_and, or_self, and_self, vf146_res, vf146_keep, e124, e130, e1, e178, num_u h1, num_u h2, num_u h3, hs1, w0, Bool.false_and, *]))
    | (refine RL_head ?_; simp only [go_sem, Nat.max_zero, List.isEmpty_cons, Int.reduceToNat, Nat.reducePow, Int.reduceEq, Int.reduceNe, Int.reduceLT, Int.reduceLE, Nat.reduceAdd, Nat.reduceLeDiff, ↓reduceIte, Nat.reduceLT, Nat.reduceMul, Nat.reduceSub, reduceCtorEq, frzLoc, rowCells, vAppM, bne_self_eq_false, beq_self_eq_true, beq_true, beq_false, I, B, w, ibeq, ibne, bbeq, decide_eq_false_iff_not, decide_not, Bool.not_not, Decidable.not_not, Bool.not_eq_eq_eq_not, gt_iff_lt, ge_iff_le, and_false, false_and, or_self, and_self, vf146_res, vf146_keep, e124, e130, e1, e178, num_u h1, num_u h2, num_u h3, hs1, w0, Bool.false_and, *, St.head, forget, vf146K0, RLK_some]; refine vf146L0_go ?_)
    | refine RX_loop ?_))
  | true =>
    cases hs2 : sideB y.f y.h y.a1 y.f y.h y.b1 F H A1 with
    | false =>
      (repeat' (first
    | refine RX_seq ?_
    | refine RX_block ?_
    | ((first | refine RX_reg ?_ | refine RX_cond' ?_ | refine RX_draw0 ?_ | refine RX_draw rfl ?_ | refine RX_skip ?_ | refine RX_gfrz ?_ | refine RX_exit ?_ | refine RX_ret ?_); try (simp only [go_sem, Nat.max_zero, List.isEmpty_cons, Int.reduceToNat, Nat.reducePow, Int.reduceEq, Int.reduceNe, Int.reduceLT, Int.reduceLE, Nat.reduceAdd, Nat.reduceLeDiff, ↓reduceIte, Nat.reduceLT, Nat.reduceMul, Nat.reduceSub, reduceCtorEq, frzLoc, rowCells, vAppM, bne_self_eq_false, beq_self_eq_true, beq_true, beq_false, I, B, w, ibeq, ibne, bbeq, decide_eq_false_iff_not, decide_not, Bool.not_not, Decidable.not_not, Bool.not_eq_eq_eq_not, gt_iff_lt, ge_iff_le, and_false, false_and, or_self, and_self, vf146_res, vf146_keep, e124, e130, e1, e178, num_u h1, num_u h2, num_u h3, hs1, hs2, w0, w1, Bool.false_and, Bool.true_and, *]))
    | (refine ite_ngo (fun _ => ?_) (fun _ => ?_) <;> try (simp only [go_sem, Nat.max_zero, List.isEmpty_cons, Int.reduceToNat, Nat.reducePow, Int.reduceEq, Int.reduceNe, Int.reduceLT, Int.reduceLE, Nat.reduceAdd, Nat.reduceLeDiff, ↓reduceIte, Nat.reduceLT, Nat.reduceMul, Nat.reduceSub, reduceCtorEq, frzLoc, rowCells, vAppM, bne_self_eq_false, beq_self_eq_true, beq_true, beq_false, I, B, w, ibeq, ibne, bbeq, decide_eq_false_iff_not, decide_not, Bool.not_not, Decidable.not_not, Bool.not_eq_eq_eq_not, gt_iff_lt, ge_iff_le, and_false, false_and, or_self, and_self, vf146_res, vf146_keep, e124, e130, e1, e178, num_u h1, num_u h2, num_u h3, hs1, hs2, w0, w1, Bool.false_and, Bool.true_and, *]))
    | (refine ite_go (fun _ => ?_) (fun _ => ?_) <;> try (simp only [go_sem, Nat.max_zero, List.isEmpty_cons, Int.reduceToNat, Nat.reducePow, Int.reduceEq, Int.reduceNe, Int.reduceLT, Int.reduceLE, Nat.reduceAdd, Nat.reduceLeDiff, ↓reduceIte, Nat.reduceLT, Nat.reduceMul, Nat.reduceSub, reduceCtorEq, frzLoc, rowCells, vAppM, bne_self_eq_false, beq_self_eq_true, beq_true, beq_false, I, B, w, ibeq, ibne, bbeq, decide_eq_false_iff_not, decide_not, Bool.not_not, Decidable.not_not, Bool.not_eq_eq_eq_not, gt_iff_lt, ge_iff_le, and_false, false_and, or_self, and_self, vf146_res, vf146_keep, e124, e130, e1, e178, num_u h1, num_u h2, num_u h3, hs1, hs2, w0, w1, Bool.false_and, Bool.true_and, *]))
    | (refine RL_head ?_; simp only [go_sem, Nat.max_zero, List.isEmpty_cons, Int.reduceToNat, Nat.reducePow, Int.reduceEq, Int.reduceNe, Int.reduceLT, Int.reduceLE, Nat.reduceAdd, Nat.reduceLeDiff, ↓reduceIte, Nat.reduceLT, Nat.reduceMul, Nat.reduceSub, reduceCtorEq, frzLoc, rowCells, vAppM, bne_self_eq_false, beq_self_eq_true, beq_true, beq_false, I, B, w, ibeq, ibne, bbeq, decide_eq_false_iff_not, decide_not, Bool.not_not, Decidable.not_not, Bool.not_eq_eq_eq_not, gt_iff_lt, ge_iff_le, and_false, false_and, or_self, and_self, vf146_res, vf146_keep, e124, e130, e1, e178, num_u h1, num_u h2, num_u h3, hs1, hs2, w0, w1, Bool.false_and, Bool.true_and, *, St.head, forget, vf146K0, RLK_some]; refine vf146L0_go ?_)
    | refine RX_loop ?_))
    | true =>
      cases hs3 : sideB 0 0 (y.p0 + 1) 0 0 (y.p1 + 1) 0 0 (pr + 1) with
      | false =>
        (repeat' (first
    | refine RX_seq ?_
    | refine RX_block ?_
    | ((first | refine RX_reg ?_ | refine RX_cond' ?_ | refine RX_draw0 ?_ | refine RX_draw rfl ?_ | refine RX_skip ?_ | refine RX_gfrz ?_ | refine RX_exit ?_ | refine RX_ret ?_); try (simp only [go_sem, Nat.max_zero, List.isEmpty_cons, Int.reduceToNat, Nat.reducePow, Int.reduceEq, Int.reduceNe, Int.reduceLT, Int.reduceLE, Nat.reduceAdd, Nat.reduceLeDiff, ↓reduceIte, Nat.reduceLT, Nat.reduceMul, Nat.reduceSub, reduceCtorEq, frzLoc, rowCells, vAppM, bne_self_eq_false, beq_self_eq_true, beq_true, beq_false, I, B, w, ibeq, ibne, bbeq, decide_eq_false_iff_not, decide_not, Bool.not_not, Decidable.not_not, Bool.not_eq_eq_eq_not, gt_iff_lt, ge_iff_le, and_false, false_and, or_self, and_self, vf146_res, vf146_keep, e124, e130, e1, e178, num_u h1, num_u h2, num_u h3, hs1, hs2, hs3, w0, w1, w2, Bool.false_and, Bool.true_and, *]))
    | (refine ite_ngo (fun _ => ?_) (fun _ => ?_) <;> try (simp only [go_sem, Nat.max_zero, List.isEmpty_cons, Int.reduceToNat, Nat.reducePow, Int.reduceEq, Int.reduceNe, Int.reduceLT, Int.reduceLE, Nat.reduceAdd, Nat.reduceLeDiff, ↓reduceIte, Nat.reduceLT, Nat.reduceMul, Nat.reduceSub, reduceCtorEq, frzLoc, rowCells, vAppM, bne_self_eq_false, beq_self_eq_true, beq_true, beq_false, I, B, w, ibeq, ibne, bbeq, decide_eq_false_iff_not, decide_not, Bool.not_not, Decidable.not_not, Bool.not_eq_eq_eq_not, gt_iff_lt, ge_iff_le, and_false, false_and, or_self, and_self, vf146_res, vf146_keep, e124, e130, e1, e178, num_u h1, num_u h2, num_u h3, hs1, hs2, hs3, w0, w1, w2, Bool.false_and, Bool.true_and, *]))
    | (refine ite_go (fun _ => ?_) (fun _ => ?_) <;> try (simp only [go_sem, Nat.max_zero, List.isEmpty_cons, Int.reduceToNat, Nat.reducePow, Int.reduceEq, Int.reduceNe, Int.reduceLT, Int.reduceLE, Nat.reduceAdd, Nat.reduceLeDiff, ↓reduceIte, Nat.reduceLT, Nat.reduceMul, Nat.reduceSub, reduceCtorEq, frzLoc, rowCells, vAppM, bne_self_eq_false, beq_self_eq_true, beq_true, beq_false, I, B, w, ibeq, ibne, bbeq, decide_eq_false_iff_not, decide_not, Bool.not_not, Decidable.not_not, Bool.not_eq_eq_eq_not, gt_iff_lt, ge_iff_le, and_false, false_and, or_self, and_self, vf146_res, vf146_keep, e124, e130, e1, e178, num_u h1, num_u h2, num_u h3, hs1, hs2, hs3, w0, w1, w2, Bool.false_and, Bool.true_and, *]))
    | (refine RL_head ?_; simp only [go_sem, Nat.max_zero, List.isEmpty_cons, Int.reduceToNat, Nat.reducePow, Int.reduceEq, Int.reduceNe, Int.reduceLT, Int.reduceLE, Nat.reduceAdd, Nat.reduceLeDiff, ↓reduceIte, Nat.reduceLT, Nat.reduceMul, Nat.reduceSub, reduceCtorEq, frzLoc, rowCells, vAppM, bne_self_eq_false, beq_self_eq_true, beq_true, beq_false, I, B, w, ibeq, ibne, bbeq, decide_eq_false_iff_not, decide_not, Bool.not_not, Decidable.not_not, Bool.not_eq_eq_eq_not, gt_iff_lt, ge_iff_le, and_false, false_and, or_self, and_self, vf146_res, vf146_keep, e124, e130, e1, e178, num_u h1, num_u h2, num_u h3, hs1, hs2, hs3, w0, w1, w2, Bool.false_and, Bool.true_and, *, St.head, forget, vf146K0, RLK_some]; refine vf146L0_go ?_)
    | refine RX_loop ?_))
      | true =>
        cases hs4 : sideB 0 0 (y.l0 + 1) 0 0 (y.l1 + 1) 0 0 (sp + 1) with
        | false =>
          (repeat' (first
    | refine RX_seq ?_
    | refine RX_block ?_
    | ((first | refine RX_reg ?_ | refine RX_cond' ?_ | refine RX_draw0 ?_ | refine RX_draw rfl ?_ | refine RX_skip ?_ | refine RX_gfrz ?_ | refine RX_exit ?_ | refine RX_ret ?_); try (simp only [go_sem, Nat.max_zero, List.isEmpty_cons, Int.reduceToNat, Nat.reducePow, Int.reduceEq, Int.reduceNe, Int.reduceLT, Int.reduceLE, Nat.reduceAdd, Nat.reduceLeDiff, ↓reduceIte, Nat.reduceLT, Nat.reduceMul, Nat.reduceSub, reduceCtorEq, frzLoc, rowCells, vAppM, bne_self_eq_false, beq_self_eq_true, beq_true, beq_false, I, B, w, ibeq, ibne, bbeq, decide_eq_false_iff_not, decide_not, Bool.not_not, Decidable.not_not, Bool.not_eq_eq_eq_not, gt_iff_lt, ge_iff_le, and_false, false_and, or_self, and_self, vf146_res, vf146_keep, e124, e130, e1, e178, num_u h1, num_u h2, num_u h3, hs1, hs2, hs3, hs4, w0, w1, w2, w3, Bool.false_and, Bool.true_and, *]))
    | (refine ite_ngo (fun _ => ?_) (fun _ => ?_) <;> try (simp only [go_sem, Nat.max_zero, List.isEmpty_cons, Int.reduceToNat, Nat.reducePow, Int.reduceEq, Int.reduceNe, Int.reduceLT, Int.reduceLE, Nat.reduceAdd, Nat.reduceLeDiff, ↓reduceIte, Nat.reduceLT, Nat.reduceMul, Nat.reduceSub, reduceCtorEq, frzLoc, rowCells, vAppM, bne_self_eq_false, beq_self_eq_true, beq_true, beq_false, I, B, w, ibeq, ibne, bbeq, decide_eq_false_iff_not, decide_not, Bool.not_not, Decidable.not_not, Bool.not_eq_eq_eq_not, gt_iff_lt, ge_iff_le, and_false, false_and, or_self, and_self, vf146_res, vf146_keep, e124, e130, e1, e178, num_u h1, num_u h2, num_u h3, hs1, hs2, hs3, hs4, w0, w1, w2, w3, Bool.false_and, Bool.true_and, *]))
    | (refine ite_go (fun _ => ?_) (fun _ => ?_) <;> try (simp only [go_sem, Nat.max_zero, List.isEmpty_cons, Int.reduceToNat, Nat.reducePow, Int.reduceEq, Int.reduceNe, Int.reduceLT, Int.reduceLE, Nat.reduceAdd, Nat.reduceLeDiff, ↓reduceIte, Nat.reduceLT, Nat.reduceMul, Nat.reduceSub, reduceCtorEq, frzLoc, rowCells, vAppM, bne_self_eq_false, beq_self_eq_true, beq_true, beq_false, I, B, w, ibeq, ibne, bbeq, decide_eq_false_iff_not, decide_not, Bool.not_not, Decidable.not_not, Bool.not_eq_eq_eq_not, gt_iff_lt, ge_iff_le, and_false, false_and, or_self, and_self, vf146_res, vf146_keep, e124, e130, e1, e178, num_u h1, num_u h2, num_u h3, hs1, hs2, hs3, hs4, w0, w1, w2, w3, Bool.false_and, Bool.true_and, *]))
    | (refine RL_head ?_; simp only [go_sem, Nat.max_zero, List.isEmpty_cons, Int.reduceToNat, Nat.reducePow, Int.reduceEq, Int.reduceNe, Int.reduceLT, Int.reduceLE, Nat.reduceAdd, Nat.reduceLeDiff, ↓reduceIte, Nat.reduceLT, Nat.reduceMul, Nat.reduceSub, reduceCtorEq, frzLoc, rowCells, vAppM, bne_self_eq_false, beq_self_eq_true, beq_true, beq_false, I, B, w, ibeq, ibne, bbeq, decide_eq_false_iff_not, decide_not, Bool.not_not, Decidable.not_not, Bool.not_eq_eq_eq_not, gt_iff_lt, ge_iff_le, and_false, false_and, or_self, and_self, vf146_res, vf146_keep, e124, e130, e1, e178, num_u h1, num_u h2, num_u h3, hs1, hs2, hs3, hs4, w0, w1, w2, w3, Bool.false_and, Bool.true_and, *, St.head, forget, vf146K0, RLK_some]; refine vf146L0_go ?_)
    | refine RX_loop ?_))
        | true =>
          cases hs5 : sideB 0 0 (y.r0 + 1) 0 0 (y.r1 + 1) 0 0 (tp + 1) with
          | false =>
            (repeat' (first
    | refine RX_seq ?_
    | refine RX_block ?_
    | ((first | refine RX_reg ?_ | refine RX_cond' ?_ | refine RX_draw0 ?_ | refine RX_draw rfl ?_ | refine RX_skip ?_ | refine RX_gfrz ?_ | refine RX_exit ?_ | refine RX_ret ?_); try (simp only [go_sem, Nat.max_zero, List.isEmpty_cons, Int.reduceToNat, Nat.reducePow, Int.reduceEq, Int.reduceNe, Int.reduceLT, Int.reduceLE, Nat.reduceAdd, Nat.reduceLeDiff, ↓reduceIte, Nat.reduceLT, Nat.reduceMul, Nat.reduceSub, reduceCtorEq, frzLoc, rowCells, vAppM, bne_self_eq_false, beq_self_eq_true, beq_true, beq_false, I, B, w, ibeq, ibne, bbeq, decide_eq_false_iff_not, decide_not, Bool.not_not, Decidable.not_not, Bool.not_eq_eq_eq_not, gt_iff_lt, ge_iff_le, and_false, false_and, or_self, and_self, vf146_res, vf146_keep, e124, e130, e1, e178, num_u h1, num_u h2, num_u h3, hs1, hs2, hs3, hs4, hs5, w0, w1, w2, w3, w4, Bool.false_and, Bool.true_and, *]))
    | (refine ite_ngo (fun _ => ?_) (fun _ => ?_) <;> try (simp only [go_sem, Nat.max_zero, List.isEmpty_cons, Int.reduceToNat, Nat.reducePow, Int.reduceEq, Int.reduceNe, Int.reduceLT, Int.reduceLE, Nat.reduceAdd, Nat.reduceLeDiff, ↓reduceIte, Nat.reduceLT, Nat.reduceMul, Nat.reduceSub, reduceCtorEq, frzLoc, rowCells, vAppM, bne_self_eq_false, beq_self_eq_true, beq_true, beq_false, I, B, w, ibeq, ibne, bbeq, decide_eq_false_iff_not, decide_not, Bool.not_not, Decidable.not_not, Bool.not_eq_eq_eq_not, gt_iff_lt, ge_iff_le, and_false, false_and, or_self, and_self, vf146_res, vf146_keep, e124, e130, e1, e178, num_u h1, num_u h2, num_u h3, hs1, hs2, hs3, hs4, hs5, w0, w1, w2, w3, w4, Bool.false_and, Bool.true_and, *]))
    | (refine ite_go (fun _ => ?_) (fun _ => ?_) <;> try (simp only [go_sem, Nat.max_zero, List.isEmpty_cons, Int.reduceToNat, Nat.reducePow, Int.reduceEq, Int.reduceNe, Int.reduceLT, Int.reduceLE, Nat.reduceAdd, Nat.reduceLeDiff, ↓reduceIte, Nat.reduceLT, Nat.reduceMul, Nat.reduceSub, reduceCtorEq, frzLoc, rowCells, vAppM, bne_self_eq_false, beq_self_eq_true, beq_true, beq_false, I, B, w, ibeq, ibne, bbeq, decide_eq_false_iff_not, decide_not, Bool.not_not, Decidable.not_not, Bool.not_eq_eq_eq_not, gt_iff_lt, ge_iff_le, and_false, false_and, or_self, and_self, vf146_res, vf146_keep, e124, e130, e1, e178, num_u h1, num_u h2, num_u h3, hs1, hs2, hs3, hs4, hs5, w0, w1, w2, w3, w4, Bool.false_and, Bool.true_and, *]))
    | (refine RL_head ?_; simp only [go_sem, Nat.max_zero, List.isEmpty_cons, Int.reduceToNat, Nat.reducePow, Int.reduceEq, Int.reduceNe, Int.reduceLT, Int.reduceLE, Nat.reduceAdd, Nat.reduceLeDiff, ↓reduceIte, Nat.reduceLT, Nat.reduceMul, Nat.reduceSub, reduceCtorEq, frzLoc, rowCells, vAppM, bne_self_eq_false, beq_self_eq_true, beq_true, beq_false, I, B, w, ibeq, ibne, bbeq, decide_eq_false_iff_not, decide_not, Bool.not_not, Decidable.not_not, Bool.not_eq_eq_eq_not, gt_iff_lt, ge_iff_le, and_false, false_and, or_self, and_self, vf146_res, vf146_keep, e124, e130, e1, e178, num_u h1, num_u h2, num_u h3, hs1, hs2, hs3, hs4, hs5, w0, w1, w2, w3, w4, Bool.false_and, Bool.true_and, *, St.head, forget, vf146K0, RLK_some]; refine vf146L0_go ?_)
    | refine RX_loop ?_))
          | true =>
            (repeat' (first
    | refine RX_seq ?_
    | refine RX_block ?_
    | ((first | refine RX_reg ?_ | refine RX_cond' ?_ | refine RX_draw0 ?_ | refine RX_draw rfl ?_ | refine RX_skip ?_ | refine RX_gfrz ?_ | refine RX_exit ?_ | refine RX_ret ?_); try (simp only [go_sem, Nat.max_zero, List.isEmpty_cons, Int.reduceToNat, Nat.reducePow, Int.reduceEq, Int.reduceNe, Int.reduceLT, Int.reduceLE, Nat.reduceAdd, Nat.reduceLeDiff, ↓reduceIte, Nat.reduceLT, Nat.reduceMul, Nat.reduceSub, reduceCtorEq, frzLoc, rowCells, vAppM, bne_self_eq_false, beq_self_eq_true, beq_true, beq_false, I, B, w, ibeq, ibne, bbeq, decide_eq_false_iff_not, decide_not, Bool.not_not, Decidable.not_not, Bool.not_eq_eq_eq_not, gt_iff_lt, ge_iff_le, and_false, false_and, or_self, and_self, vf146_res, vf146_keep, e124, e130, e1, e178, num_u h1, num_u h2, num_u h3, hs1, hs2, hs3, hs4, hs5, w0, w1, w2, w3, w4, Bool.false_and, Bool.true_and, *]))
    | (refine ite_ngo (fun _ => ?_) (fun _ => ?_) <;> try (simp only [go_sem, Nat.max_zero, List.isEmpty_cons, Int.reduceToNat, Nat.reducePow, Int.reduceEq, Int.reduceNe, Int.reduceLT, Int.reduceLE, Nat.reduceAdd, Nat.reduceLeDiff, ↓reduceIte, Nat.reduceLT, Nat.reduceMul, Nat.reduceSub, reduceCtorEq, frzLoc, rowCells, vAppM, bne_self_eq_false, beq_self_eq_true, beq_true, beq_false, I, B, w, ibeq, ibne, bbeq, decide_eq_false_iff_not, decide_not, Bool.not_not, Decidable.not_not, Bool.not_eq_eq_eq_not, gt_iff_lt, ge_iff_le, and_false, false_and, or_self, and_self, vf146_res, vf146_keep, e124, e130, e1, e178, num_u h1, num_u h2, num_u h3, hs1, hs2, hs3, hs4, hs5, w0, w1, w2, w3, w4, Bool.false_and, Bool.true_and, *]))
    | (refine ite_go (fun _ => ?_) (fun _ => ?_) <;> try (simp only [go_sem, Nat.max_zero, List.isEmpty_cons, Int.reduceToNat, Nat.reducePow, Int.reduceEq, Int.reduceNe, Int.reduceLT, Int.reduceLE, Nat.reduceAdd, Nat.reduceLeDiff, ↓reduceIte, Nat.reduceLT, Nat.reduceMul, Nat.reduceSub, reduceCtorEq, frzLoc, rowCells, vAppM, bne_self_eq_false, beq_self_eq_true, beq_true, beq_false, I, B, w, ibeq, ibne, bbeq, decide_eq_false_iff_not, decide_not, Bool.not_not, Decidable.not_not, Bool.not_eq_eq_eq_not, gt_iff_lt, ge_iff_le, and_false, false_and, or_self, and_self, vf146_res, vf146_keep, e124, e130, e1, e178, num_u h1, num_u h2, num_u h3, hs1, hs2, hs3, hs4, hs5, w0, w1, w2, w3, w4, Bool.false_and, Bool.true_and, *]))
    | (refine RL_head ?_; simp only [go_sem, Nat.max_zero, List.isEmpty_cons, Int.reduceToNat, Nat.reducePow, Int.reduceEq, Int.reduceNe, Int.reduceLT, Int.reduceLE, Nat.reduceAdd, Nat.reduceLeDiff, ↓reduceIte, Nat.reduceLT, Nat.reduceMul, Nat.reduceSub, reduceCtorEq, frzLoc, rowCells, vAppM, bne_self_eq_false, beq_self_eq_true, beq_true, beq_false, I, B, w, ibeq, ibne, bbeq, decide_eq_false_iff_not, decide_not, Bool.not_not, Decidable.not_not, Bool.not_eq_eq_eq_not, gt_iff_lt, ge_iff_le, and_false, false_and, or_self, and_self, vf146_res, vf146_keep, e124, e130, e1, e178, num_u h1, num_u h2, num_u h3, hs1, hs2, hs3, hs4, hs5, w0, w1, w2, w3, w4, Bool.false_and, Bool.true_and, *, St.head, forget, vf146K0, RLK_some]; refine vf146L0_go ?_)
    | refine RX_loop ?_))
end Go.Proofs.Ytgiciiknagelhaa
set_option linter.unusedVariables false
set_option maxRecDepth 100000
set_option maxHeartbeats 4000000
namespace Go.Proofs.Ytgiciiknagelhaa
open Go.VM
def betw (F H A f h a g k b : Int) : Bool := decide (F = f) && (!(lessA F H A f h a) && !(lessA g k b F H A))
theorem e173 (F H A f h a g k b : Int) : CV VP 173 [.agg [.d (I F), .d (U H), .d (U A)], .agg [.d (I f), .d (U h), .d (U a)], .agg [.d (I g), .d (U k), .d (U b)]] [] = some ⟨.d (B (betw F H A f h a g k b)), [], [], 0⟩ := by
  refine CV_run (vf := vf173) rfl rfl ?_
  rw [vf173_start]
  unfold betw
  by_cases h1 : F = f
  · subst h1
    cases h2 : lessA F H A F h a with
    | true =>
      (repeat (first
    | refine RX_seq ?_
    | refine RX_block ?_
    | ((first | refine RX_reg ?_ | refine RX_cond' ?_ | refine RX_draw0 ?_ | refine RX_draw rfl ?_ | refine RX_skip ?_ | refine RX_gfrz ?_ | refine RX_exit ?_ | refine RX_ret ?_); try (simp only [go_sem, Nat.max_zero, List.isEmpty_cons, Int.reduceToNat, Nat.reducePow, Int.reduceEq, Int.reduceNe, Int.reduceLT, Int.reduceLE, Nat.reduceAdd, Nat.reduceLeDiff, ↓reduceIte, Nat.reduceLT, Nat.reduceMul, Nat.reduceSub, reduceCtorEq, frzLoc, rowCells, vAppM, beq_iff_eq, bne_iff_ne, bne_self_eq_false, beq_self_eq_true, beq_true, beq_false, I, B, w, vf173_res, vf173_keep, e109, h2, decide_true, Bool.true_and, Bool.not_true, Bool.false_and]))))
    | false =>
      cases h3 : lessA g k b F H A with
      | true =>
        (repeat (first
    | refine RX_seq ?_
    | refine RX_block ?_
    | ((first | refine RX_reg ?_ | refine RX_cond' ?_ | refine RX_draw0 ?_ | refine RX_draw rfl ?_ | refine RX_skip ?_ | refine RX_gfrz ?_ | refine RX_exit ?_ | refine RX_ret ?_); try (simp only [go_sem, Nat.max_zero, List.isEmpty_cons, Int.reduceToNat, Nat.reducePow, Int.reduceEq, Int.reduceNe, Int.reduceLT, Int.reduceLE, Nat.reduceAdd, Nat.reduceLeDiff, ↓reduceIte, Nat.reduceLT, Nat.reduceMul, Nat.reduceSub, reduceCtorEq, frzLoc, rowCells, vAppM, beq_iff_eq, bne_iff_ne, bne_self_eq_false, beq_self_eq_true, beq_true, beq_false, I, B, w, vf173_res, vf173_keep, e109, h2, h3, decide_true, Bool.true_and, Bool.not_false, Bool.not_true, Bool.false_and]))))
      | false =>
        (repeat (first
    | refine RX_seq ?_
    | refine RX_block ?_
    | ((first | refine RX_reg ?_ | refine RX_cond' ?_ | refine RX_draw0 ?_ | refine RX_draw rfl ?_ | refine RX_skip ?_ | refine RX_gfrz ?_ | refine RX_exit ?_ | refine RX_ret ?_); try (simp only [go_sem, Nat.max_zero, List.isEmpty_cons, Int.reduceToNat, Nat.reducePow, Int.reduceEq, Int.reduceNe, Int.reduceLT, Int.reduceLE, Nat.reduceAdd, Nat.reduceLeDiff, ↓reduceIte, Nat.reduceLT, Nat.reduceMul, Nat.reduceSub, reduceCtorEq, frzLoc, rowCells, vAppM, beq_iff_eq, bne_iff_ne, bne_self_eq_false, beq_self_eq_true, beq_true, beq_false, I, B, w, vf173_res, vf173_keep, e109, h2, h3, decide_true, Bool.true_and, Bool.not_false, Bool.not_true, Bool.false_and]))))
  · (repeat (first
    | refine RX_seq ?_
    | refine RX_block ?_
    | ((first | refine RX_reg ?_ | refine RX_cond' ?_ | refine RX_draw0 ?_ | refine RX_draw rfl ?_ | refine RX_skip ?_ | refine RX_gfrz ?_ | refine RX_exit ?_ | refine RX_ret ?_); try (simp only [go_sem, Nat.max_zero, List.isEmpty_cons, Int.reduceToNat, Nat.reducePow, Int.reduceEq, Int.reduceNe, Int.reduceLT, Int.reduceLE, Nat.reduceAdd, Nat.reduceLeDiff, ↓reduceIte, Nat.reduceLT, Nat.reduceMul, Nat.reduceSub, reduceCtorEq, frzLoc, rowCells, vAppM, beq_iff_eq, bne_iff_ne, bne_self_eq_false, beq_self_eq_true, beq_true, beq_false, I, B, w, vf173_res, vf173_keep, e109, h1, decide_false, Bool.false_and]))))
theorem betw_side {F H A f h a b : Int} : betw F H A f h a f h b = sideB f h a f h b F H A := by
  rw [Bool.eq_iff_iff, side_iff]
  unfold betw lessA
  simp only [Bool.and_eq_true, decide_eq_true_eq, Bool.not_eq_true', decide_eq_false_iff_not]
  constructor
  · rintro ⟨rfl, h2, h3⟩
    repeat' split at h2
    all_goals (repeat' split at h3)
    all_goals simp_all
    all_goals omega
  · rintro ⟨rfl, rfl, h1, h2⟩
    simp
    omega
theorem sB_iff {p q v : Int} : sB p q v = true ↔ p ≤ v ∧ v ≤ q := by
  unfold sB
  rw [side_iff]
  constructor
  · rintro ⟨_, _, h1, h2⟩; omega
  · rintro ⟨h1, h2⟩; exact ⟨rfl, rfl, by omega, by omega⟩
theorem e141 (c : V) (h : ∃ a b d e f g h i j : D, c = .agg [.d a, .d b, .d d, .d e, .d f, .d g, .d h, .d i, .d j]) : CV VP 141 [c, .d (B true)] [] = some ⟨c, [], [], 0⟩ := by
  obtain ⟨a, b, d, e, f, g, h, i, j, rfl⟩ := h
  refine CV_run (vf := vf141) rfl rfl ?_
  rw [vf141_start]
  (repeat (first
    | refine RX_seq ?_
    | refine RX_block ?_
    | ((first | refine RX_reg ?_ | refine RX_cond' ?_ | refine RX_draw0 ?_ | refine RX_draw rfl ?_ | refine RX_skip ?_ | refine RX_gfrz ?_ | refine RX_exit ?_ | refine RX_ret ?_); try (simp only [go_sem, Nat.max_zero, List.isEmpty_cons, Int.reduceToNat, Nat.reducePow, Int.reduceEq, Int.reduceNe, Int.reduceLT, Int.reduceLE, Nat.reduceAdd, Nat.reduceLeDiff, ↓reduceIte, Nat.reduceLT, Nat.reduceMul, Nat.reduceSub, reduceCtorEq, frzLoc, rowCells, vAppM, beq_iff_eq, bne_iff_ne, bne_self_eq_false, beq_self_eq_true, beq_true, beq_false, I, B, w, vf141_res, vf141_keep]))))
theorem e140 (y : Bx) (F H A A1 pr sp tp : Int) : CV VP 140 [y.ag, pkV F H A A1 pr sp tp, .d (B true)] [] = some ⟨.d (B (hasB y F H A A1 pr sp tp)), [], [], 0⟩ := by
  have e1 := e141 (pkV F H A A1 pr sp tp) ⟨_, _, _, _, _, _, _, _, _, rfl⟩
  have key : hasB y F H A A1 pr sp tp = (betw F H A y.f y.h y.a0 y.f y.h y.b0 && (betw F H A1 y.f y.h y.a1 y.f y.h y.b1 && (decide (y.p0 ≤ pr) && (decide (pr ≤ y.p1) && (decide (y.l0 ≤ sp) && (decide (sp ≤ y.l1) && (decide (y.r0 ≤ tp) && decide (tp ≤ y.r1)))))))) := by
    unfold hasB
    rw [betw_side, betw_side]
    congr 1
    congr 1
    rw [Bool.eq_iff_iff]
    simp only [Bool.and_eq_true, sB_iff, decide_eq_true_eq]
    constructor
    · rintro ⟨⟨a, b⟩, ⟨c, d⟩, e, f⟩; exact ⟨a, b, c, d, e, f⟩
    · rintro ⟨a, b, c, d, e, f⟩; exact ⟨⟨a, b⟩, ⟨c, d⟩, e, f⟩
  rw [key]
  refine CV_run (vf := vf140) rfl rfl ?_
  rw [vf140_start]
  cases c0 : betw F H A y.f y.h y.a0 y.f y.h y.b0 with
  | false =>
    (repeat (first
    | refine RX_seq ?_
    | refine RX_block ?_
    | ((first | refine RX_reg ?_ | refine RX_cond' ?_ | refine RX_draw0 ?_ | refine RX_draw rfl ?_ | refine RX_skip ?_ | refine RX_gfrz ?_ | refine RX_exit ?_ | refine RX_ret ?_); try (simp only [go_sem, Nat.max_zero, List.isEmpty_cons, Int.reduceToNat, Nat.reducePow, Int.reduceEq, Int.reduceNe, Int.reduceLT, Int.reduceLE, Nat.reduceAdd, Nat.reduceLeDiff, ↓reduceIte, Nat.reduceLT, Nat.reduceMul, Nat.reduceSub, reduceCtorEq, frzLoc, rowCells, vAppM, beq_iff_eq, bne_iff_ne, bne_self_eq_false, beq_self_eq_true, beq_true, beq_false, I, B, w, vf140_res, vf140_keep, e1, e173, ge_iff_le, decide_true, decide_false, Bool.true_and, Bool.false_and, c0]))))
  | true =>
    cases c1 : betw F H A1 y.f y.h y.a1 y.f y.h y.b1 with
    | false =>
      (repeat (first
    | refine RX_seq ?_
    | refine RX_block ?_
    | ((first | refine RX_reg ?_ | refine RX_cond' ?_ | refine RX_draw0 ?_ | refine RX_draw rfl ?_ | refine RX_skip ?_ | refine RX_gfrz ?_ | refine RX_exit ?_ | refine RX_ret ?_); try (simp only [go_sem, Nat.max_zero, List.isEmpty_cons, Int.reduceToNat, Nat.reducePow, Int.reduceEq, Int.reduceNe, Int.reduceLT, Int.reduceLE, Nat.reduceAdd, Nat.reduceLeDiff, ↓reduceIte, Nat.reduceLT, Nat.reduceMul, Nat.reduceSub, reduceCtorEq, frzLoc, rowCells, vAppM, beq_iff_eq, bne_iff_ne, bne_self_eq_false, beq_self_eq_true, beq_true, beq_false, I, B, w, vf140_res, vf140_keep, e1, e173, ge_iff_le, decide_true, decide_false, Bool.true_and, Bool.false_and, c0, c1]))))
    | true =>
      by_cases c2 : y.p0 ≤ pr
      · by_cases c3 : pr ≤ y.p1
        · by_cases c4 : y.l0 ≤ sp
          · by_cases c5 : sp ≤ y.l1
            · by_cases c6 : y.r0 ≤ tp
              · by_cases c7 : tp ≤ y.r1
                · (repeat (first
    | refine RX_seq ?_
    | refine RX_block ?_
    | ((first | refine RX_reg ?_ | refine RX_cond' ?_ | refine RX_draw0 ?_ | refine RX_draw rfl ?_ | refine RX_skip ?_ | refine RX_gfrz ?_ | refine RX_exit ?_ | refine RX_ret ?_); try (simp only [go_sem, Nat.max_zero, List.isEmpty_cons, Int.reduceToNat, Nat.reducePow, Int.reduceEq, Int.reduceNe, Int.reduceLT, Int.reduceLE, Nat.reduceAdd, Nat.reduceLeDiff, ↓reduceIte, Nat.reduceLT, Nat.reduceMul, Nat.reduceSub, reduceCtorEq, frzLoc, rowCells, vAppM, beq_iff_eq, bne_iff_ne, bne_self_eq_false, beq_self_eq_true, beq_true, beq_false, I, B, w, vf140_res, vf140_keep, e1, e173, ge_iff_le, decide_true, decide_false, Bool.true_and, Bool.false_and, c0, c1, c2, c3, c4, c5, c6, c7]))))
                · (repeat (first
    | refine RX_seq ?_
    | refine RX_block ?_
    | ((first | refine RX_reg ?_ | refine RX_cond' ?_ | refine RX_draw0 ?_ | refine RX_draw rfl ?_ | refine RX_skip ?_ | refine RX_gfrz ?_ | refine RX_exit ?_ | refine RX_ret ?_); try (simp only [go_sem, Nat.max_zero, List.isEmpty_cons, Int.reduceToNat, Nat.reducePow, Int.reduceEq, Int.reduceNe, Int.reduceLT, Int.reduceLE, Nat.reduceAdd, Nat.reduceLeDiff, ↓reduceIte, Nat.reduceLT, Nat.reduceMul, Nat.reduceSub, reduceCtorEq, frzLoc, rowCells, vAppM, beq_iff_eq, bne_iff_ne, bne_self_eq_false, beq_self_eq_true, beq_true, beq_false, I, B, w, vf140_res, vf140_keep, e1, e173, ge_iff_le, decide_true, decide_false, Bool.true_and, Bool.false_and, c0, c1, c2, c3, c4, c5, c6, c7]))))
              · (repeat (first
    | refine RX_seq ?_
    | refine RX_block ?_
    | ((first | refine RX_reg ?_ | refine RX_cond' ?_ | refine RX_draw0 ?_ | refine RX_draw rfl ?_ | refine RX_skip ?_ | refine RX_gfrz ?_ | refine RX_exit ?_ | refine RX_ret ?_); try (simp only [go_sem, Nat.max_zero, List.isEmpty_cons, Int.reduceToNat, Nat.reducePow, Int.reduceEq, Int.reduceNe, Int.reduceLT, Int.reduceLE, Nat.reduceAdd, Nat.reduceLeDiff, ↓reduceIte, Nat.reduceLT, Nat.reduceMul, Nat.reduceSub, reduceCtorEq, frzLoc, rowCells, vAppM, beq_iff_eq, bne_iff_ne, bne_self_eq_false, beq_self_eq_true, beq_true, beq_false, I, B, w, vf140_res, vf140_keep, e1, e173, ge_iff_le, decide_true, decide_false, Bool.true_and, Bool.false_and, c0, c1, c2, c3, c4, c5, c6]))))
            · (repeat (first
    | refine RX_seq ?_
    | refine RX_block ?_
    | ((first | refine RX_reg ?_ | refine RX_cond' ?_ | refine RX_draw0 ?_ | refine RX_draw rfl ?_ | refine RX_skip ?_ | refine RX_gfrz ?_ | refine RX_exit ?_ | refine RX_ret ?_); try (simp only [go_sem, Nat.max_zero, List.isEmpty_cons, Int.reduceToNat, Nat.reducePow, Int.reduceEq, Int.reduceNe, Int.reduceLT, Int.reduceLE, Nat.reduceAdd, Nat.reduceLeDiff, ↓reduceIte, Nat.reduceLT, Nat.reduceMul, Nat.reduceSub, reduceCtorEq, frzLoc, rowCells, vAppM, beq_iff_eq, bne_iff_ne, bne_self_eq_false, beq_self_eq_true, beq_true, beq_false, I, B, w, vf140_res, vf140_keep, e1, e173, ge_iff_le, decide_true, decide_false, Bool.true_and, Bool.false_and, c0, c1, c2, c3, c4, c5]))))
          · (repeat (first
    | refine RX_seq ?_
    | refine RX_block ?_
    | ((first | refine RX_reg ?_ | refine RX_cond' ?_ | refine RX_draw0 ?_ | refine RX_draw rfl ?_ | refine RX_skip ?_ | refine RX_gfrz ?_ | refine RX_exit ?_ | refine RX_ret ?_); try (simp only [go_sem, Nat.max_zero, List.isEmpty_cons, Int.reduceToNat, Nat.reducePow, Int.reduceEq, Int.reduceNe, Int.reduceLT, Int.reduceLE, Nat.reduceAdd, Nat.reduceLeDiff, ↓reduceIte, Nat.reduceLT, Nat.reduceMul, Nat.reduceSub, reduceCtorEq, frzLoc, rowCells, vAppM, beq_iff_eq, bne_iff_ne, bne_self_eq_false, beq_self_eq_true, beq_true, beq_false, I, B, w, vf140_res, vf140_keep, e1, e173, ge_iff_le, decide_true, decide_false, Bool.true_and, Bool.false_and, c0, c1, c2, c3, c4]))))
        · (repeat (first
    | refine RX_seq ?_
    | refine RX_block ?_
    | ((first | refine RX_reg ?_ | refine RX_cond' ?_ | refine RX_draw0 ?_ | refine RX_draw rfl ?_ | refine RX_skip ?_ | refine RX_gfrz ?_ | refine RX_exit ?_ | refine RX_ret ?_); try (simp only [go_sem, Nat.max_zero, List.isEmpty_cons, Int.reduceToNat, Nat.reducePow, Int.reduceEq, Int.reduceNe, Int.reduceLT, Int.reduceLE, Nat.reduceAdd, Nat.reduceLeDiff, ↓reduceIte, Nat.reduceLT, Nat.reduceMul, Nat.reduceSub, reduceCtorEq, frzLoc, rowCells, vAppM, beq_iff_eq, bne_iff_ne, bne_self_eq_false, beq_self_eq_true, beq_true, beq_false, I, B, w, vf140_res, vf140_keep, e1, e173, ge_iff_le, decide_true, decide_false, Bool.true_and, Bool.false_and, c0, c1, c2, c3]))))
      · (repeat (first
    | refine RX_seq ?_
    | refine RX_block ?_
    | ((first | refine RX_reg ?_ | refine RX_cond' ?_ | refine RX_draw0 ?_ | refine RX_draw rfl ?_ | refine RX_skip ?_ | refine RX_gfrz ?_ | refine RX_exit ?_ | refine RX_ret ?_); try (simp only [go_sem, Nat.max_zero, List.isEmpty_cons, Int.reduceToNat, Nat.reducePow, Int.reduceEq, Int.reduceNe, Int.reduceLT, Int.reduceLE, Nat.reduceAdd, Nat.reduceLeDiff, ↓reduceIte, Nat.reduceLT, Nat.reduceMul, Nat.reduceSub, reduceCtorEq, frzLoc, rowCells, vAppM, beq_iff_eq, bne_iff_ne, bne_self_eq_false, beq_self_eq_true, beq_true, beq_false, I, B, w, vf140_res, vf140_keep, e1, e173, ge_iff_le, decide_true, decide_false, Bool.true_and, Bool.false_and, c0, c1, c2]))))
end Go.Proofs.Ytgiciiknagelhaa
set_option linter.unusedVariables false
set_option maxRecDepth 100000
set_option maxHeartbeats 4000000
namespace Go.Proofs.Ytgiciiknagelhaa
open Go.VM
def hasRu (F H A A1 pr sp tp : Int) (r : Ru) : Bool := r.bs.any fun b => hasB b F H A A1 pr sp tp
def ruG (h : Ru → Bool) : Nat → List Ru → Option Nat
  | _, [] => none
  | i, r :: rs => if h r = true then some i else ruG h (i + 1) rs
def ruV : Option Nat → V
  | some i => .tup [.d (I (i : Nat)), .d (B true)]
  | none => .tup [.d (I 0), .d (B false)]
abbrev pkL (F H A A1 pr sp tp : Int) : List V := [.d (I F), .d (U H), .d (U A), .d (I F), .d (U H), .d (U A1), .d (I pr), .d (I sp), .d (I tp)]
theorem e142 (rs : List Ru) (hl : rs.length ≤ 1000) (hr : ∀ r ∈ rs, r.fine) {F H A A1 pr sp tp : Int} (p1 : num pr) (p2 : num sp) (p3 : num tp) :
    CV VP 142 [.d (.sl (rs.map Ru.row)), pkV F H A A1 pr sp tp, .d (B true)] [] = some ⟨ruV (ruG (hasRu F H A A1 pr sp tp) 0 rs), [], [], 0⟩ := by
  refine CV_run (vf := vf142) rfl rfl ?_
  rw [vf142_start]
  (repeat (first
    | refine RX_seq ?_
    | refine RX_block ?_
    | ((first | refine RX_reg ?_ | refine RX_cond' ?_ | refine RX_draw0 ?_ | refine RX_draw rfl ?_ | refine RX_skip ?_ | refine RX_gfrz ?_ | refine RX_exit ?_ | refine RX_ret ?_); try (simp only [go_sem, Nat.max_zero, List.isEmpty_cons, Int.reduceToNat, Nat.reducePow, Int.reduceEq, Int.reduceNe, Int.reduceLT, Int.reduceLE, Nat.reduceAdd, Nat.reduceLeDiff, ↓reduceIte, Nat.reduceLT, Nat.reduceMul, Nat.reduceSub, reduceCtorEq, frzLoc, rowCells, vAppM, beq_iff_eq, bne_iff_ne, bne_self_eq_false, beq_self_eq_true, beq_true, beq_false, I, B, w, vf142_res, vf142_keep, List.length_map]))))
  refine RX_loopN (n := 1) rfl ?_
  refine RL_ind (fun m st => ∃ (i : Nat), i + m = rs.length ∧ ruG (hasRu F H A A1 pr sp tp) 0 rs = ruG (hasRu F H A A1 pr sp tp) i (rs.drop i) ∧ At vf142K0 1 st ((.any :: .any :: .d (B true) :: .any :: .ptr 0 0 :: .any :: .any :: .any :: .any :: .any :: .any :: .any :: .d (.sl (rs.map Ru.row)) :: .d (I (rs.length : Nat)) :: .d (I (i : Nat)) :: .any :: .any :: .any :: .any :: .any :: .any :: .any :: .any :: .any :: .any :: .any :: .any :: .any :: .any :: .any :: .any :: .any :: .any :: [])) [pkL F H A A1 pr sp tp] [] 0 0) ?_ rs.length _ ⟨0, Nat.zero_add _, rfl, rfl, rfl, rfl, rfl, rfl, rfl⟩
  rintro m st ⟨i, hi, hg, hat⟩ ih
  refine RL_at hat rfl rfl (vf142L0_go ?_)
  clear hat
  cases m with
  | zero =>
    have h1 : ¬ i < rs.length := by omega
    have hn : rs.drop i = [] := List.drop_eq_nil_of_le (by omega)
    rw [hg, hn]
    (repeat (first
    | refine RX_seq ?_
    | refine RX_block ?_
    | ((first | refine RX_reg ?_ | refine RX_cond' ?_ | refine RX_draw0 ?_ | refine RX_draw rfl ?_ | refine RX_skip ?_ | refine RX_gfrz ?_ | refine RX_exit ?_ | refine RX_ret ?_); try (simp only [go_sem, Nat.max_zero, List.isEmpty_cons, Int.reduceToNat, Nat.reducePow, Int.reduceEq, Int.reduceNe, Int.reduceLT, Int.reduceLE, Nat.reduceAdd, Nat.reduceLeDiff, ↓reduceIte, Nat.reduceLT, Nat.reduceMul, Nat.reduceSub, reduceCtorEq, frzLoc, rowCells, vAppM, beq_iff_eq, bne_iff_ne, bne_self_eq_false, beq_self_eq_true, beq_true, beq_false, I, B, w, vf142_res, vf142_keep, List.length_map, h1, ruG, ruV]))))
  | succ m =>
    have h1 : i < rs.length := by omega
    obtain ⟨r, hri⟩ : ∃ r, rs[i]? = some r := ⟨_, List.getElem?_eq_getElem h1⟩
    have hdr : rs.drop i = r :: rs.drop (i + 1) := by
      rw [List.drop_eq_getElem_cons h1, (List.getElem?_eq_some_iff.1 hri).2]
    have hrow : (rs.map Ru.row)[i]? = some r.row := by rw [List.getElem?_map, hri]; rfl
    have hrf := hr r (List.mem_of_getElem? hri)
    have hwi := w_nat (i := i) (by omega)
    have hbl := hrf.len
    rw [hg, hdr]
    rw [hdr] at hg
    have next := fun st hg hat => ih m st (Nat.lt_succ_self m) ⟨i + 1, by omega, hg, hat⟩
    clear ih hr hri hi
    (repeat (first
    | refine RX_seq ?_
    | refine RX_block ?_
    | ((first | refine RX_reg ?_ | refine RX_cond' ?_ | refine RX_draw0 ?_ | refine RX_draw rfl ?_ | refine RX_skip ?_ | refine RX_gfrz ?_ | refine RX_exit ?_ | refine RX_ret ?_); try (simp only [go_sem, Nat.max_zero, List.isEmpty_cons, Int.reduceToNat, Nat.reducePow, Int.reduceEq, Int.reduceNe, Int.reduceLT, Int.reduceLE, Nat.reduceAdd, Nat.reduceLeDiff, ↓reduceIte, Nat.reduceLT, Nat.reduceMul, Nat.reduceSub, reduceCtorEq, frzLoc, rowCells, vAppM, beq_iff_eq, bne_iff_ne, bne_self_eq_false, beq_self_eq_true, beq_true, beq_false, I, B, w, vf142_res, vf142_keep, List.length_map, h1, hrow]))))
    refine RX_loopN (n := 2) rfl ?_
    refine RL_ind (fun m st => ∃ (k : Nat), k + m = r.bs.length ∧ (r.bs.any fun b => hasB b F H A A1 pr sp tp) = ((r.bs.drop k).any fun b => hasB b F H A A1 pr sp tp) ∧ At vf142K1 2 st ((.any :: .any :: .d (B true) :: .any :: .ptr 0 0 :: .any :: .any :: .any :: .d (I (i : Nat)) :: .any :: .any :: .any :: .d (.sl (rs.map Ru.row)) :: .d (I (rs.length : Nat)) :: .d (I (i : Nat)) :: .any :: .any :: .any :: .any :: .any :: .d (.sl (r.bs.map Bx.row)) :: .d (I (r.bs.length : Nat)) :: .d (I (k : Nat)) :: .any :: .any :: .any :: .any :: .any :: .any :: .any :: .any :: .any :: .any :: [])) [pkL F H A A1 pr sp tp, r.row.map .d] [] 0 0) ?_ r.bs.length _ ⟨0, Nat.zero_add _, rfl, rfl, rfl, rfl, rfl, rfl, rfl⟩
    rintro m2 st2 ⟨k, hk, hb, hat2⟩ ih2
    refine RL_at hat2 rfl rfl (vf142L1_go ?_)
    clear hat2
    cases m2 with
    | zero =>
      have k1 : ¬ k < r.bs.length := by omega
      have hn : r.bs.drop k = [] := List.drop_eq_nil_of_le (by omega)
      rw [hn] at hb
      have hf : hasRu F H A A1 pr sp tp r = false := hb
      have hgr : ruG (hasRu F H A A1 pr sp tp) i (r :: rs.drop (i + 1)) = ruG (hasRu F H A A1 pr sp tp) (i + 1) (rs.drop (i + 1)) := by
        rw [ruG, hf]; rfl
      rw [hgr] at hg ⊢
      clear ih2 hb
      (repeat (first
    | refine RX_seq ?_
    | refine RX_block ?_
    | ((first | refine RX_reg ?_ | refine RX_cond' ?_ | refine RX_draw0 ?_ | refine RX_draw rfl ?_ | refine RX_skip ?_ | refine RX_gfrz ?_ | refine RX_exit ?_ | refine RX_ret ?_); try (simp only [go_sem, Nat.max_zero, List.isEmpty_cons, Int.reduceToNat, Nat.reducePow, Int.reduceEq, Int.reduceNe, Int.reduceLT, Int.reduceLE, Nat.reduceAdd, Nat.reduceLeDiff, ↓reduceIte, Nat.reduceLT, Nat.reduceMul, Nat.reduceSub, reduceCtorEq, frzLoc, rowCells, vAppM, beq_iff_eq, bne_iff_ne, bne_self_eq_false, beq_self_eq_true, beq_true, beq_false, I, B, w, vf142_res, vf142_keep, List.length_map, k1, hwi]))))
      rw [← hg]
      exact next _ hg ⟨rfl, rfl, rfl, rfl, rfl, rfl⟩
    | succ m2 =>
      have k1 : k < r.bs.length := by omega
      obtain ⟨b, hbk⟩ : ∃ b, r.bs[k]? = some b := ⟨_, List.getElem?_eq_getElem k1⟩
      have hbrow : (r.bs.map Bx.row)[k]? = some b.row := by rw [List.getElem?_map, hbk]; rfl
      have hbo := (hrf.bs b (List.mem_of_getElem? hbk)).1
      have hwk := w_nat (i := k) (by omega)
      have hc := e146 b hbo F H A A1 pr sp tp p1 p2 p3
      have hdk : r.bs.drop k = b :: r.bs.drop (k + 1) := by
        rw [List.drop_eq_getElem_cons k1, (List.getElem?_eq_some_iff.1 hbk).2]
      rw [hdk, List.any_cons] at hb
      cases hh : hasB b F H A A1 pr sp tp with
      | true =>
        rw [hh, Bool.true_or] at hb
        have hf : hasRu F H A A1 pr sp tp r = true := hb
        rw [hh] at hc
        have hgr : ruG (hasRu F H A A1 pr sp tp) i (r :: rs.drop (i + 1)) = some i := by rw [ruG, hf]; rfl
        rw [hgr]
        clear ih2 hb next hg
        (repeat (first
    | refine RX_seq ?_
    | refine RX_block ?_
    | ((first | refine RX_reg ?_ | refine RX_cond' ?_ | refine RX_draw0 ?_ | refine RX_draw rfl ?_ | refine RX_skip ?_ | refine RX_gfrz ?_ | refine RX_exit ?_ | refine RX_ret ?_); try (simp only [go_sem, Nat.max_zero, List.isEmpty_cons, Int.reduceToNat, Nat.reducePow, Int.reduceEq, Int.reduceNe, Int.reduceLT, Int.reduceLE, Nat.reduceAdd, Nat.reduceLeDiff, ↓reduceIte, Nat.reduceLT, Nat.reduceMul, Nat.reduceSub, reduceCtorEq, frzLoc, rowCells, vAppM, beq_iff_eq, bne_iff_ne, bne_self_eq_false, beq_self_eq_true, beq_true, beq_false, I, B, w, vf142_res, vf142_keep, List.length_map, k1, hbrow, hc, hwk, ruV]))))
      | false =>
        rw [hh, Bool.false_or] at hb
        rw [hh] at hc
        have next2 := fun st hat => ih2 m2 st (Nat.lt_succ_self m2) ⟨k + 1, by omega, hb, hat⟩
        clear ih2
        (repeat (first
    | refine RX_seq ?_
    | refine RX_block ?_
    | ((first | refine RX_reg ?_ | refine RX_cond' ?_ | refine RX_draw0 ?_ | refine RX_draw rfl ?_ | refine RX_skip ?_ | refine RX_gfrz ?_ | refine RX_exit ?_ | refine RX_ret ?_); try (simp only [go_sem, Nat.max_zero, List.isEmpty_cons, Int.reduceToNat, Nat.reducePow, Int.reduceEq, Int.reduceNe, Int.reduceLT, Int.reduceLE, Nat.reduceAdd, Nat.reduceLeDiff, ↓reduceIte, Nat.reduceLT, Nat.reduceMul, Nat.reduceSub, reduceCtorEq, frzLoc, rowCells, vAppM, beq_iff_eq, bne_iff_ne, bne_self_eq_false, beq_self_eq_true, beq_true, beq_false, I, B, w, vf142_res, vf142_keep, List.length_map, k1, hbrow, hc, hwk]))))
        exact next2 _ ⟨rfl, rfl, rfl, rfl, rfl, rfl⟩
end Go.Proofs.Ytgiciiknagelhaa
set_option linter.unusedVariables false
set_option maxRecDepth 100000
set_option maxHeartbeats 4000000
namespace Go.Proofs.Ytgiciiknagelhaa
open Go.VM
theorem e74 (rs : List Ru) (hl : rs.length ≤ 1000) (hr : ∀ r ∈ rs, r.fine) {F H A A1 pr sp tp : Int} (p1 : num pr) (p2 : num sp) (p3 : num tp) :
    CV VP 74 [.d (.sl (rs.map Ru.row)), pkV F H A A1 pr sp tp, .d (B true)] [] = some ⟨ruV (ruG (hasRu F H A A1 pr sp tp) 0 rs), [], [], 0⟩ := by
  refine CV_run (vf := vf74) rfl rfl ?_
  rw [vf74_start]
  (repeat (first
    | refine RX_seq ?_
    | refine RX_block ?_
    | ((first | refine RX_reg ?_ | refine RX_cond' ?_ | refine RX_draw0 ?_ | refine RX_draw rfl ?_ | refine RX_skip ?_ | refine RX_gfrz ?_ | refine RX_exit ?_ | refine RX_ret ?_); try (simp only [go_sem, Nat.max_zero, List.isEmpty_cons, Int.reduceToNat, Nat.reducePow, Int.reduceEq, Int.reduceNe, Int.reduceLT, Int.reduceLE, Nat.reduceAdd, Nat.reduceLeDiff, ↓reduceIte, Nat.reduceLT, Nat.reduceMul, Nat.reduceSub, reduceCtorEq, frzLoc, rowCells, vAppM, beq_iff_eq, bne_iff_ne, bne_self_eq_false, beq_self_eq_true, beq_true, beq_false, I, B, w, vf74_res, vf74_keep, List.length_map]))))
  refine RX_loopN (n := 1) rfl ?_
  refine RL_ind (fun m st => ∃ (i : Nat), i + m = rs.length ∧ ruG (hasRu F H A A1 pr sp tp) 0 rs = ruG (hasRu F H A A1 pr sp tp) i (rs.drop i) ∧ At vf74K0 1 st ((.d (.sl (rs.map Ru.row)) :: .any :: .d (B true) :: .any :: .ptr 0 0 :: .any :: .any :: .any :: .d (I (i : Nat)) :: .any :: .any :: .any :: .any :: .any :: .any :: .any :: .any :: .any :: .any :: .any :: .any :: .any :: .any :: .any :: .any :: .any :: .any :: .any :: .any :: .any :: .any :: .any :: .any :: .any :: .any :: .any :: .any :: .any :: [])) [pkL F H A A1 pr sp tp] [] 0 0) ?_ rs.length _ ⟨0, Nat.zero_add _, rfl, rfl, rfl, rfl, rfl, rfl, rfl⟩
  rintro m st ⟨i, hi, hg, hat⟩ ih
  refine RL_at hat rfl rfl (vf74L0_go ?_)
  clear hat
  cases m with
  | zero =>
    have h1 : ¬ i < rs.length := by omega
    have hn : rs.drop i = [] := List.drop_eq_nil_of_le (by omega)
    rw [hg, hn]
    (repeat (first
    | refine RX_seq ?_
    | refine RX_block ?_
    | ((first | refine RX_reg ?_ | refine RX_cond' ?_ | refine RX_draw0 ?_ | refine RX_draw rfl ?_ | refine RX_skip ?_ | refine RX_gfrz ?_ | refine RX_exit ?_ | refine RX_ret ?_); try (simp only [go_sem, Nat.max_zero, List.isEmpty_cons, Int.reduceToNat, Nat.reducePow, Int.reduceEq, Int.reduceNe, Int.reduceLT, Int.reduceLE, Nat.reduceAdd, Nat.reduceLeDiff, ↓reduceIte, Nat.reduceLT, Nat.reduceMul, Nat.reduceSub, reduceCtorEq, frzLoc, rowCells, vAppM, beq_iff_eq, bne_iff_ne, bne_self_eq_false, beq_self_eq_true, beq_true, beq_false, I, B, w, vf74_res, vf74_keep, List.length_map, h1, ruG, ruV]))))
  | succ m =>
    have h1 : i < rs.length := by omega
    obtain ⟨r, hri⟩ : ∃ r, rs[i]? = some r := ⟨_, List.getElem?_eq_getElem h1⟩
    have hdr : rs.drop i = r :: rs.drop (i + 1) := by
      rw [List.drop_eq_getElem_cons h1, (List.getElem?_eq_some_iff.1 hri).2]
    have hrow : (rs.map Ru.row)[i]? = some r.row := by rw [List.getElem?_map, hri]; rfl
    have hrf := hr r (List.mem_of_getElem? hri)
    have hwi := w_nat (i := i) (by omega)
    have hbl := hrf.len
    rw [hg, hdr]
    rw [hdr] at hg
    have next := fun st hg hat => ih m st (Nat.lt_succ_self m) ⟨i + 1, by omega, hg, hat⟩
    clear ih hr hri hi
    (repeat (first
    | refine RX_seq ?_
    | refine RX_block ?_
    | ((first | refine RX_reg ?_ | refine RX_cond' ?_ | refine RX_draw0 ?_ | refine RX_draw rfl ?_ | refine RX_skip ?_ | refine RX_gfrz ?_ | refine RX_exit ?_ | refine RX_ret ?_); try (simp only [go_sem, Nat.max_zero, List.isEmpty_cons, Int.reduceToNat, Nat.reducePow, Int.reduceEq, Int.reduceNe, Int.reduceLT, Int.reduceLE, Nat.reduceAdd, Nat.reduceLeDiff, ↓reduceIte, Nat.reduceLT, Nat.reduceMul, Nat.reduceSub, reduceCtorEq, frzLoc, rowCells, vAppM, beq_iff_eq, bne_iff_ne, bne_self_eq_false, beq_self_eq_true, beq_true, beq_false, I, B, w, vf74_res, vf74_keep, List.length_map, h1, hrow]))))
    refine RX_loopN (n := 1) rfl ?_
    refine RL_ind (fun m st => ∃ (k : Nat), k + m = r.bs.length ∧ (r.bs.any fun b => hasB b F H A A1 pr sp tp) = ((r.bs.drop k).any fun b => hasB b F H A A1 pr sp tp) ∧ At vf74K1 1 st ((.d (.sl (rs.map Ru.row)) :: .any :: .d (B true) :: .any :: .ptr 0 0 :: .any :: .any :: .any :: .d (I (i : Nat)) :: .d (I (k : Nat)) :: .any :: .any :: .any :: .any :: .any :: .any :: .any :: .any :: .any :: .any :: .any :: .any :: .any :: .any :: .any :: .any :: .any :: .any :: .any :: .any :: .any :: .any :: .any :: .any :: .any :: .any :: .any :: .any :: [])) [pkL F H A A1 pr sp tp] [] 0 0) ?_ r.bs.length _ ⟨0, Nat.zero_add _, rfl, rfl, rfl, rfl, rfl, rfl, rfl⟩
    rintro m2 st2 ⟨k, hk, hb, hat2⟩ ih2
    refine RL_at hat2 rfl rfl (vf74L1_go ?_)
    clear hat2
    cases m2 with
    | zero =>
      have k1 : ¬ k < r.bs.length := by omega
      have hn : r.bs.drop k = [] := List.drop_eq_nil_of_le (by omega)
      rw [hn] at hb
      have hf : hasRu F H A A1 pr sp tp r = false := hb
      have hgr : ruG (hasRu F H A A1 pr sp tp) i (r :: rs.drop (i + 1)) = ruG (hasRu F H A A1 pr sp tp) (i + 1) (rs.drop (i + 1)) := by
        rw [ruG, hf]; rfl
      rw [hgr] at hg ⊢
      clear ih2 hb
      (repeat (first
    | refine RX_seq ?_
    | refine RX_block ?_
    | ((first | refine RX_reg ?_ | refine RX_cond' ?_ | refine RX_draw0 ?_ | refine RX_draw rfl ?_ | refine RX_skip ?_ | refine RX_gfrz ?_ | refine RX_exit ?_ | refine RX_ret ?_); try (simp only [go_sem, Nat.max_zero, List.isEmpty_cons, Int.reduceToNat, Nat.reducePow, Int.reduceEq, Int.reduceNe, Int.reduceLT, Int.reduceLE, Nat.reduceAdd, Nat.reduceLeDiff, ↓reduceIte, Nat.reduceLT, Nat.reduceMul, Nat.reduceSub, reduceCtorEq, frzLoc, rowCells, vAppM, beq_iff_eq, bne_iff_ne, bne_self_eq_false, beq_self_eq_true, beq_true, beq_false, I, B, w, vf74_res, vf74_keep, List.length_map, h1, hrow, k1, hwi]))))
      rw [← hg]
      exact next _ hg ⟨rfl, rfl, rfl, rfl, rfl, rfl⟩
    | succ m2 =>
      have k1 : k < r.bs.length := by omega
      obtain ⟨b, hbk⟩ : ∃ b, r.bs[k]? = some b := ⟨_, List.getElem?_eq_getElem k1⟩
      have hbrow : (r.bs.map Bx.row)[k]? = some b.row := by rw [List.getElem?_map, hbk]; rfl
      have hbo := (hrf.bs b (List.mem_of_getElem? hbk)).1
      have hwk := w_nat (i := k) (by omega)
      have hc := e140 b F H A A1 pr sp tp
      have hdk : r.bs.drop k = b :: r.bs.drop (k + 1) := by
        rw [List.drop_eq_getElem_cons k1, (List.getElem?_eq_some_iff.1 hbk).2]
      rw [hdk, List.any_cons] at hb
      cases hh : hasB b F H A A1 pr sp tp with
      | true =>
        rw [hh, Bool.true_or] at hb
        have hf : hasRu F H A A1 pr sp tp r = true := hb
        rw [hh] at hc
        have hgr : ruG (hasRu F H A A1 pr sp tp) i (r :: rs.drop (i + 1)) = some i := by rw [ruG, hf]; rfl
        rw [hgr]
        clear ih2 hb next hg
        (repeat (first
    | refine RX_seq ?_
    | refine RX_block ?_
    | ((first | refine RX_reg ?_ | refine RX_cond' ?_ | refine RX_draw0 ?_ | refine RX_draw rfl ?_ | refine RX_skip ?_ | refine RX_gfrz ?_ | refine RX_exit ?_ | refine RX_ret ?_); try (simp only [go_sem, Nat.max_zero, List.isEmpty_cons, Int.reduceToNat, Nat.reducePow, Int.reduceEq, Int.reduceNe, Int.reduceLT, Int.reduceLE, Nat.reduceAdd, Nat.reduceLeDiff, ↓reduceIte, Nat.reduceLT, Nat.reduceMul, Nat.reduceSub, reduceCtorEq, frzLoc, rowCells, vAppM, beq_iff_eq, bne_iff_ne, bne_self_eq_false, beq_self_eq_true, beq_true, beq_false, I, B, w, vf74_res, vf74_keep, List.length_map, h1, hrow, k1, hbrow, hc, hwk, ruV]))))
      | false =>
        rw [hh, Bool.false_or] at hb
        rw [hh] at hc
        have next2 := fun st hat => ih2 m2 st (Nat.lt_succ_self m2) ⟨k + 1, by omega, hb, hat⟩
        clear ih2
        (repeat (first
    | refine RX_seq ?_
    | refine RX_block ?_
    | ((first | refine RX_reg ?_ | refine RX_cond' ?_ | refine RX_draw0 ?_ | refine RX_draw rfl ?_ | refine RX_skip ?_ | refine RX_gfrz ?_ | refine RX_exit ?_ | refine RX_ret ?_); try (simp only [go_sem, Nat.max_zero, List.isEmpty_cons, Int.reduceToNat, Nat.reducePow, Int.reduceEq, Int.reduceNe, Int.reduceLT, Int.reduceLE, Nat.reduceAdd, Nat.reduceLeDiff, ↓reduceIte, Nat.reduceLT, Nat.reduceMul, Nat.reduceSub, reduceCtorEq, frzLoc, rowCells, vAppM, beq_iff_eq, bne_iff_ne, bne_self_eq_false, beq_self_eq_true, beq_true, beq_false, I, B, w, vf74_res, vf74_keep, List.length_map, h1, hrow, k1, hbrow, hc, hwk]))))
        exact next2 _ ⟨rfl, rfl, rfl, rfl, rfl, rfl⟩
end Go.Proofs.Ytgiciiknagelhaa
set_option linter.unusedVariables false
set_option maxRecDepth 100000
set_option maxHeartbeats 4000000
namespace Go.Proofs.Ytgiciiknagelhaa
open Go.VM
theorem bxF_ports {l : List Int} (s : Int) (k : Nat) : 0 ≤ (bxF l s k).1.l1 ∧ 0 ≤ (bxF l s k).1.r1 := by
  unfold bxF
  simp only
  (repeat' split) <;> simp [bx0]
theorem ruS_pre3 {l : List Int} (hB : Bytes l) {s : Int} (h0 : 0 ≤ s) (h1 : s ≤ 1) (k : Nat) : ∃ (pre : List Ru) (x : Bx) (more : List Bx) (tail : List Ru), (ruS l s k).1 = pre ++ [⟨2, gold, x :: more⟩] ++ tail ∧ pre.length ≤ 2 ∧ more.length ≤ 1 ∧
    (tail = [] ∨ tail = [⟨1, ⟨#[]⟩, [bypass]⟩]) ∧ x.ok ∧ x.fine ∧ 0 ≤ x.l1 ∧ 0 ≤ x.r1 := by
  have r := nxV_range hB (k := k) (n := 3) (by decide)
  unfold ruS goldF endF
  simp only
  generalize hp : drL (ruF l s) (nxV l k 3).toNat (nxA l k) = p
  have hlen : p.1.length ≤ 2 := by rw [← hp, drL_len]; omega
  split
  · have hb := bxF_both hB h0 h1 (nxA l p.2)
    have hq := bxF_ports (l := l) s (nxA l p.2)
    refine ⟨p.1, _, [(bxF [] s 0).1], _, rfl, hlen, by simp, ?_, hb.1, hb.2, hq.1, hq.2⟩
    split
    · exact .inr rfl
    · exact .inl rfl
  · have hb := bxF_both bytes_nil h0 h1 0
    have hq := bxF_ports (l := []) s 0
    refine ⟨p.1, _, [], _, rfl, hlen, by simp, ?_, hb.1, hb.2, hq.1, hq.2⟩
    split
    · exact .inr rfl
    · exact .inl rfl
theorem d75 (F H A A1 pr sp tp : Int) (h1 : 0 ≤ sp) (h2 : 0 ≤ tp) : CV VP 75 [pkV F H A A1 pr sp tp] [] = some ⟨.d (B false), [], [], 0⟩ := by
  have g1 : ¬ sp = -1 := by omega
  have g2 : ¬ tp = -1 := by omega
  refine CV_run (vf := vf75) rfl rfl ?_
  rw [vf75_start]
  (repeat' (first
    | refine RX_seq ?_
    | refine RX_block ?_
    | ((first | refine RX_reg ?_ | refine RX_cond' ?_ | refine RX_draw0 ?_ | refine RX_draw rfl ?_ | refine RX_skip ?_ | refine RX_gfrz ?_ | refine RX_exit ?_ | refine RX_ret ?_); try (simp only [go_sem, Nat.max_zero, List.isEmpty_cons, Int.reduceToNat, Nat.reducePow, Int.reduceEq, Int.reduceNe, Int.reduceLT, Int.reduceLE, Nat.reduceAdd, Nat.reduceLeDiff, ↓reduceIte, Nat.reduceLT, Nat.reduceMul, Nat.reduceSub, reduceCtorEq, frzLoc, rowCells, vAppM, bne_self_eq_false, beq_self_eq_true, beq_true, beq_false, I, B, w, ibeq, ibne, bbeq, decide_eq_false_iff_not, decide_not, Bool.not_not, Decidable.not_not, Bool.not_eq_eq_eq_not, gt_iff_lt, ge_iff_le, and_false, false_and, or_self, and_self, vf75_res, vf75_keep, g1, g2, *]))
    | (refine ite_ngo (fun _ => ?_) (fun _ => ?_) <;> try (simp only [go_sem, Nat.max_zero, List.isEmpty_cons, Int.reduceToNat, Nat.reducePow, Int.reduceEq, Int.reduceNe, Int.reduceLT, Int.reduceLE, Nat.reduceAdd, Nat.reduceLeDiff, ↓reduceIte, Nat.reduceLT, Nat.reduceMul, Nat.reduceSub, reduceCtorEq, frzLoc, rowCells, vAppM, bne_self_eq_false, beq_self_eq_true, beq_true, beq_false, I, B, w, ibeq, ibne, bbeq, decide_eq_false_iff_not, decide_not, Bool.not_not, Decidable.not_not, Bool.not_eq_eq_eq_not, gt_iff_lt, ge_iff_le, and_false, false_and, or_self, and_self, vf75_res, vf75_keep, g1, g2, *]))
    | (refine ite_go (fun _ => ?_) (fun _ => ?_) <;> try (simp only [go_sem, Nat.max_zero, List.isEmpty_cons, Int.reduceToNat, Nat.reducePow, Int.reduceEq, Int.reduceNe, Int.reduceLT, Int.reduceLE, Nat.reduceAdd, Nat.reduceLeDiff, ↓reduceIte, Nat.reduceLT, Nat.reduceMul, Nat.reduceSub, reduceCtorEq, frzLoc, rowCells, vAppM, bne_self_eq_false, beq_self_eq_true, beq_true, beq_false, I, B, w, ibeq, ibne, bbeq, decide_eq_false_iff_not, decide_not, Bool.not_not, Decidable.not_not, Bool.not_eq_eq_eq_not, gt_iff_lt, ge_iff_le, and_false, false_and, or_self, and_self, vf75_res, vf75_keep, g1, g2, *]))))
def actV (rs : List Ru) : Option Nat → V
  | some i => .tup [.d (I (match rs[i]? with | some r => r.act | none => 0)), .d (I (i : Nat))]
  | none => .tup [.d (I 0), .d (I (-1))]
theorem ruG_get {h : Ru → Bool} : ∀ {rs : List Ru} {j i : Nat}, ruG h j rs = some i → j ≤ i ∧ ∃ r, rs[i - j]? = some r
  | [], j, i, h => by simp [ruG] at h
  | r :: rs, j, i, h => by
    rw [ruG] at h
    split at h
    · simp only [Option.some.injEq] at h; subst h
      exact ⟨Nat.le_refl _, r, by rw [Nat.sub_self]; rfl⟩
    · obtain ⟨h1, r', h2⟩ := ruG_get h
      refine ⟨by omega, r', ?_⟩
      rw [show i - j = (i - (j + 1)) + 1 by omega]
      exact h2
theorem d22 (rs : List Ru) (hl : rs.length ≤ 1000) (hr : ∀ r ∈ rs, r.fine) {F H A A1 pr sp tp : Int} (p1 : num pr) (p2 : num sp) (p3 : num tp) (q2 : 0 ≤ sp) (q3 : 0 ≤ tp) :
    CV VP 22 [.d (.sl (rs.map Ru.row)), pkV F H A A1 pr sp tp, .d (B true)] [] = some ⟨actV rs (ruG (hasRu F H A A1 pr sp tp) 0 rs), [], [], 0⟩ := by
  have hc := e74 rs hl hr p1 p2 p3 (F := F) (H := H) (A := A) (A1 := A1)
  have hh := d75 F H A A1 pr sp tp q2 q3
  cases hg : ruG (hasRu F H A A1 pr sp tp) 0 rs with
  | none =>
    rw [hg] at hc
    simp only [ruV] at hc
    refine CV_run (vf := vf22) rfl rfl ?_
    rw [vf22_start]
    by_cases h0 : 0 < rs.length
    · (repeat' (first
    | refine RX_seq ?_
    | refine RX_block ?_
    | ((first | refine RX_reg ?_ | refine RX_cond' ?_ | refine RX_draw0 ?_ | refine RX_draw rfl ?_ | refine RX_skip ?_ | refine RX_gfrz ?_ | refine RX_exit ?_ | refine RX_ret ?_); try (simp only [go_sem, Nat.max_zero, List.isEmpty_cons, Int.reduceToNat, Nat.reducePow, Int.reduceEq, Int.reduceNe, Int.reduceLT, Int.reduceLE, Nat.reduceAdd, Nat.reduceLeDiff, ↓reduceIte, Nat.reduceLT, Nat.reduceMul, Nat.reduceSub, reduceCtorEq, frzLoc, rowCells, vAppM, bne_self_eq_false, beq_self_eq_true, beq_true, beq_false, I, B, w, ibeq, ibne, bbeq, decide_eq_false_iff_not, decide_not, Bool.not_not, Decidable.not_not, Bool.not_eq_eq_eq_not, gt_iff_lt, ge_iff_le, and_false, false_and, or_self, and_self, vf22_res, vf22_keep, hc, hh, List.length_map, actV, h0, *]))
    | (refine ite_ngo (fun _ => ?_) (fun _ => ?_) <;> try (simp only [go_sem, Nat.max_zero, List.isEmpty_cons, Int.reduceToNat, Nat.reducePow, Int.reduceEq, Int.reduceNe, Int.reduceLT, Int.reduceLE, Nat.reduceAdd, Nat.reduceLeDiff, ↓reduceIte, Nat.reduceLT, Nat.reduceMul, Nat.reduceSub, reduceCtorEq, frzLoc, rowCells, vAppM, bne_self_eq_false, beq_self_eq_true, beq_true, beq_false, I, B, w, ibeq, ibne, bbeq, decide_eq_false_iff_not, decide_not, Bool.not_not, Decidable.not_not, Bool.not_eq_eq_eq_not, gt_iff_lt, ge_iff_le, and_false, false_and, or_self, and_self, vf22_res, vf22_keep, hc, hh, List.length_map, actV, h0, *]))
    | (refine ite_go (fun _ => ?_) (fun _ => ?_) <;> try (simp only [go_sem, Nat.max_zero, List.isEmpty_cons, Int.reduceToNat, Nat.reducePow, Int.reduceEq, Int.reduceNe, Int.reduceLT, Int.reduceLE, Nat.reduceAdd, Nat.reduceLeDiff, ↓reduceIte, Nat.reduceLT, Nat.reduceMul, Nat.reduceSub, reduceCtorEq, frzLoc, rowCells, vAppM, bne_self_eq_false, beq_self_eq_true, beq_true, beq_false, I, B, w, ibeq, ibne, bbeq, decide_eq_false_iff_not, decide_not, Bool.not_not, Decidable.not_not, Bool.not_eq_eq_eq_not, gt_iff_lt, ge_iff_le, and_false, false_and, or_self, and_self, vf22_res, vf22_keep, hc, hh, List.length_map, actV, h0, *]))
    | (refine RL_head ?_; simp only [go_sem, Nat.max_zero, List.isEmpty_cons, Int.reduceToNat, Nat.reducePow, Int.reduceEq, Int.reduceNe, Int.reduceLT, Int.reduceLE, Nat.reduceAdd, Nat.reduceLeDiff, ↓reduceIte, Nat.reduceLT, Nat.reduceMul, Nat.reduceSub, reduceCtorEq, frzLoc, rowCells, vAppM, bne_self_eq_false, beq_self_eq_true, beq_true, beq_false, I, B, w, ibeq, ibne, bbeq, decide_eq_false_iff_not, decide_not, Bool.not_not, Decidable.not_not, Bool.not_eq_eq_eq_not, gt_iff_lt, ge_iff_le, and_false, false_and, or_self, and_self, vf22_res, vf22_keep, hc, hh, List.length_map, actV, h0, *, St.head, forget, vf22K0, RLK_some]; refine vf22L0_go ?_)
    | refine RX_loop ?_))
    · (repeat' (first
    | refine RX_seq ?_
    | refine RX_block ?_
    | ((first | refine RX_reg ?_ | refine RX_cond' ?_ | refine RX_draw0 ?_ | refine RX_draw rfl ?_ | refine RX_skip ?_ | refine RX_gfrz ?_ | refine RX_exit ?_ | refine RX_ret ?_); try (simp only [go_sem, Nat.max_zero, List.isEmpty_cons, Int.reduceToNat, Nat.reducePow, Int.reduceEq, Int.reduceNe, Int.reduceLT, Int.reduceLE, Nat.reduceAdd, Nat.reduceLeDiff, ↓reduceIte, Nat.reduceLT, Nat.reduceMul, Nat.reduceSub, reduceCtorEq, frzLoc, rowCells, vAppM, bne_self_eq_false, beq_self_eq_true, beq_true, beq_false, I, B, w, ibeq, ibne, bbeq, decide_eq_false_iff_not, decide_not, Bool.not_not, Decidable.not_not, Bool.not_eq_eq_eq_not, gt_iff_lt, ge_iff_le, and_false, false_and, or_self, and_self, vf22_res, vf22_keep, hc, hh, List.length_map, actV, h0, *]))
    | (refine ite_ngo (fun _ => ?_) (fun _ => ?_) <;> try (simp only [go_sem, Nat.max_zero, List.isEmpty_cons, Int.reduceToNat, Nat.reducePow, Int.reduceEq, Int.reduceNe, Int.reduceLT, Int.reduceLE, Nat.reduceAdd, Nat.reduceLeDiff, ↓reduceIte, Nat.reduceLT, Nat.reduceMul, Nat.reduceSub, reduceCtorEq, frzLoc, rowCells, vAppM, bne_self_eq_false, beq_self_eq_true, beq_true, beq_false, I, B, w, ibeq, ibne, bbeq, decide_eq_false_iff_not, decide_not, Bool.not_not, Decidable.not_not, Bool.not_eq_eq_eq_not, gt_iff_lt, ge_iff_le, and_false, false_and, or_self, and_self, vf22_res, vf22_keep, hc, hh, List.length_map, actV, h0, *]))
    | (refine ite_go (fun _ => ?_) (fun _ => ?_) <;> try (simp only [go_sem, Nat.max_zero, List.isEmpty_cons, Int.reduceToNat, Nat.reducePow, Int.reduceEq, Int.reduceNe, Int.reduceLT, Int.reduceLE, Nat.reduceAdd, Nat.reduceLeDiff, ↓reduceIte, Nat.reduceLT, Nat.reduceMul, Nat.reduceSub, reduceCtorEq, frzLoc, rowCells, vAppM, bne_self_eq_false, beq_self_eq_true, beq_true, beq_false, I, B, w, ibeq, ibne, bbeq, decide_eq_false_iff_not, decide_not, Bool.not_not, Decidable.not_not, Bool.not_eq_eq_eq_not, gt_iff_lt, ge_iff_le, and_false, false_and, or_self, and_self, vf22_res, vf22_keep, hc, hh, List.length_map, actV, h0, *]))
    | (refine RL_head ?_; simp only [go_sem, Nat.max_zero, List.isEmpty_cons, Int.reduceToNat, Nat.reducePow, Int.reduceEq, Int.reduceNe, Int.reduceLT, Int.reduceLE, Nat.reduceAdd, Nat.reduceLeDiff, ↓reduceIte, Nat.reduceLT, Nat.reduceMul, Nat.reduceSub, reduceCtorEq, frzLoc, rowCells, vAppM, bne_self_eq_false, beq_self_eq_true, beq_true, beq_false, I, B, w, ibeq, ibne, bbeq, decide_eq_false_iff_not, decide_not, Bool.not_not, Decidable.not_not, Bool.not_eq_eq_eq_not, gt_iff_lt, ge_iff_le, and_false, false_and, or_self, and_self, vf22_res, vf22_keep, hc, hh, List.length_map, actV, h0, *, St.head, forget, vf22K0, RLK_some]; refine vf22L0_go ?_)
    | refine RX_loop ?_))
  | some i =>
    rw [hg] at hc
    obtain ⟨_, r, hri⟩ := ruG_get hg
    rw [Nat.sub_zero] at hri
    have hil : i < rs.length := (List.getElem?_eq_some_iff.1 hri).1
    have hrow : (rs.map Ru.row)[i]? = some r.row := by rw [List.getElem?_map, hri]; rfl
    simp only [ruV] at hc
    refine CV_run (vf := vf22) rfl rfl ?_
    rw [vf22_start]
    by_cases h0 : 0 < i
    · (repeat' (first
    | refine RX_seq ?_
    | refine RX_block ?_
    | ((first | refine RX_reg ?_ | refine RX_cond' ?_ | refine RX_draw0 ?_ | refine RX_draw rfl ?_ | refine RX_skip ?_ | refine RX_gfrz ?_ | refine RX_exit ?_ | refine RX_ret ?_); try (simp only [go_sem, Nat.max_zero, List.isEmpty_cons, Int.reduceToNat, Nat.reducePow, Int.reduceEq, Int.reduceNe, Int.reduceLT, Int.reduceLE, Nat.reduceAdd, Nat.reduceLeDiff, ↓reduceIte, Nat.reduceLT, Nat.reduceMul, Nat.reduceSub, reduceCtorEq, frzLoc, rowCells, vAppM, bne_self_eq_false, beq_self_eq_true, beq_true, beq_false, I, B, w, ibeq, ibne, bbeq, decide_eq_false_iff_not, decide_not, Bool.not_not, Decidable.not_not, Bool.not_eq_eq_eq_not, gt_iff_lt, ge_iff_le, and_false, false_and, or_self, and_self, vf22_res, vf22_keep, hc, hh, List.length_map, actV, h0, hri, hil, hrow, *]))
    | (refine ite_ngo (fun _ => ?_) (fun _ => ?_) <;> try (simp only [go_sem, Nat.max_zero, List.isEmpty_cons, Int.reduceToNat, Nat.reducePow, Int.reduceEq, Int.reduceNe, Int.reduceLT, Int.reduceLE, Nat.reduceAdd, Nat.reduceLeDiff, ↓reduceIte, Nat.reduceLT, Nat.reduceMul, Nat.reduceSub, reduceCtorEq, frzLoc, rowCells, vAppM, bne_self_eq_false, beq_self_eq_true, beq_true, beq_false, I, B, w, ibeq, ibne, bbeq, decide_eq_false_iff_not, decide_not, Bool.not_not, Decidable.not_not, Bool.not_eq_eq_eq_not, gt_iff_lt, ge_iff_le, and_false, false_and, or_self, and_self, vf22_res, vf22_keep, hc, hh, List.length_map, actV, h0, hri, hil, hrow, *]))
    | (refine ite_go (fun _ => ?_) (fun _ => ?_) <;> try (simp only [go_sem, Nat.max_zero, List.isEmpty_cons, Int.reduceToNat, Nat.reducePow, Int.reduceEq, Int.reduceNe, Int.reduceLT, Int.reduceLE, Nat.reduceAdd, Nat.reduceLeDiff, ↓reduceIte, Nat.reduceLT, Nat.reduceMul, Nat.reduceSub, reduceCtorEq, frzLoc, rowCells, vAppM, bne_self_eq_false, beq_self_eq_true, beq_true, beq_false, I, B, w, ibeq, ibne, bbeq, decide_eq_false_iff_not, decide_not, Bool.not_not, Decidable.not_not, Bool.not_eq_eq_eq_not, gt_iff_lt, ge_iff_le, and_false, false_and, or_self, and_self, vf22_res, vf22_keep, hc, hh, List.length_map, actV, h0, hri, hil, hrow, *]))
    | (refine RL_head ?_; simp only [go_sem, Nat.max_zero, List.isEmpty_cons, Int.reduceToNat, Nat.reducePow, Int.reduceEq, Int.reduceNe, Int.reduceLT, Int.reduceLE, Nat.reduceAdd, Nat.reduceLeDiff, ↓reduceIte, Nat.reduceLT, Nat.reduceMul, Nat.reduceSub, reduceCtorEq, frzLoc, rowCells, vAppM, bne_self_eq_false, beq_self_eq_true, beq_true, beq_false, I, B, w, ibeq, ibne, bbeq, decide_eq_false_iff_not, decide_not, Bool.not_not, Decidable.not_not, Bool.not_eq_eq_eq_not, gt_iff_lt, ge_iff_le, and_false, false_and, or_self, and_self, vf22_res, vf22_keep, hc, hh, List.length_map, actV, h0, hri, hil, hrow, *, St.head, forget, vf22K0, RLK_some]; refine vf22L0_go ?_)
    | refine RX_loop ?_))
    · (repeat' (first
    | refine RX_seq ?_
    | refine RX_block ?_
    | ((first | refine RX_reg ?_ | refine RX_cond' ?_ | refine RX_draw0 ?_ | refine RX_draw rfl ?_ | refine RX_skip ?_ | refine RX_gfrz ?_ | refine RX_exit ?_ | refine RX_ret ?_); try (simp only [go_sem, Nat.max_zero, List.isEmpty_cons, Int.reduceToNat, Nat.reducePow, Int.reduceEq, Int.reduceNe, Int.reduceLT, Int.reduceLE, Nat.reduceAdd, Nat.reduceLeDiff, ↓reduceIte, Nat.reduceLT, Nat.reduceMul, Nat.reduceSub, reduceCtorEq, frzLoc, rowCells, vAppM, bne_self_eq_false, beq_self_eq_true, beq_true, beq_false, I, B, w, ibeq, ibne, bbeq, decide_eq_false_iff_not, decide_not, Bool.not_not, Decidable.not_not, Bool.not_eq_eq_eq_not, gt_iff_lt, ge_iff_le, and_false, false_and, or_self, and_self, vf22_res, vf22_keep, hc, hh, List.length_map, actV, h0, hri, hil, hrow, *]))
    | (refine ite_ngo (fun _ => ?_) (fun _ => ?_) <;> try (simp only [go_sem, Nat.max_zero, List.isEmpty_cons, Int.reduceToNat, Nat.reducePow, Int.reduceEq, Int.reduceNe, Int.reduceLT, Int.reduceLE, Nat.reduceAdd, Nat.reduceLeDiff, ↓reduceIte, Nat.reduceLT, Nat.reduceMul, Nat.reduceSub, reduceCtorEq, frzLoc, rowCells, vAppM, bne_self_eq_false, beq_self_eq_true, beq_true, beq_false, I, B, w, ibeq, ibne, bbeq, decide_eq_false_iff_not, decide_not, Bool.not_not, Decidable.not_not, Bool.not_eq_eq_eq_not, gt_iff_lt, ge_iff_le, and_false, false_and, or_self, and_self, vf22_res, vf22_keep, hc, hh, List.length_map, actV, h0, hri, hil, hrow, *]))
    | (refine ite_go (fun _ => ?_) (fun _ => ?_) <;> try (simp only [go_sem, Nat.max_zero, List.isEmpty_cons, Int.reduceToNat, Nat.reducePow, Int.reduceEq, Int.reduceNe, Int.reduceLT, Int.reduceLE, Nat.reduceAdd, Nat.reduceLeDiff, ↓reduceIte, Nat.reduceLT, Nat.reduceMul, Nat.reduceSub, reduceCtorEq, frzLoc, rowCells, vAppM, bne_self_eq_false, beq_self_eq_true, beq_true, beq_false, I, B, w, ibeq, ibne, bbeq, decide_eq_false_iff_not, decide_not, Bool.not_not, Decidable.not_not, Bool.not_eq_eq_eq_not, gt_iff_lt, ge_iff_le, and_false, false_and, or_self, and_self, vf22_res, vf22_keep, hc, hh, List.length_map, actV, h0, hri, hil, hrow, *]))
    | (refine RL_head ?_; simp only [go_sem, Nat.max_zero, List.isEmpty_cons, Int.reduceToNat, Nat.reducePow, Int.reduceEq, Int.reduceNe, Int.reduceLT, Int.reduceLE, Nat.reduceAdd, Nat.reduceLeDiff, ↓reduceIte, Nat.reduceLT, Nat.reduceMul, Nat.reduceSub, reduceCtorEq, frzLoc, rowCells, vAppM, bne_self_eq_false, beq_self_eq_true, beq_true, beq_false, I, B, w, ibeq, ibne, bbeq, decide_eq_false_iff_not, decide_not, Bool.not_not, Decidable.not_not, Bool.not_eq_eq_eq_not, gt_iff_lt, ge_iff_le, and_false, false_and, or_self, and_self, vf22_res, vf22_keep, hc, hh, List.length_map, actV, h0, hri, hil, hrow, *, St.head, forget, vf22K0, RLK_some]; refine vf22L0_go ?_)
    | refine RX_loop ?_))
theorem d77 (rs : List Ru) (hl : rs.length ≤ 1000) (hr : ∀ r ∈ rs, r.fine) {F H A A1 pr sp tp : Int} (p1 : num pr) (p2 : num sp) (p3 : num tp) {i : Nat} {r : Ru} (hg : ruG (hasRu F H A A1 pr sp tp) 0 rs = some i) (hri : rs[i]? = some r) (ha : r.act = 2) :
    CV VP 77 [.d (.sl (rs.map Ru.row)), pkV F H A A1 pr sp tp, .d (B true)] [] = some ⟨.tup [.d (I 2), .d (I (i : Nat))], [], [], 0⟩ := by
  have hc := e142 rs hl hr p1 p2 p3 (F := F) (H := H) (A := A) (A1 := A1)
  have hil : i < rs.length := (List.getElem?_eq_some_iff.1 hri).1
  have hrow : (rs.map Ru.row)[i]? = some r.row := by rw [List.getElem?_map, hri]; rfl
  rw [hg] at hc
  simp only [ruV] at hc
  simp only [Ru.row, ha] at hrow
  refine CV_run (vf := vf77) rfl rfl ?_
  rw [vf77_start]
  (repeat' (first
    | refine RX_seq ?_
    | refine RX_block ?_
    | ((first | refine RX_reg ?_ | refine RX_cond' ?_ | refine RX_draw0 ?_ | refine RX_draw rfl ?_ | refine RX_skip ?_ | refine RX_gfrz ?_ | refine RX_exit ?_ | refine RX_ret ?_); try (simp only [go_sem, Nat.max_zero, List.isEmpty_cons, Int.reduceToNat, Nat.reducePow, Int.reduceEq, Int.reduceNe, Int.reduceLT, Int.reduceLE, Nat.reduceAdd, Nat.reduceLeDiff, ↓reduceIte, Nat.reduceLT, Nat.reduceMul, Nat.reduceSub, reduceCtorEq, frzLoc, rowCells, vAppM, bne_self_eq_false, beq_self_eq_true, beq_true, beq_false, I, B, w, ibeq, ibne, bbeq, decide_eq_false_iff_not, decide_not, Bool.not_not, Decidable.not_not, Bool.not_eq_eq_eq_not, gt_iff_lt, ge_iff_le, and_false, false_and, or_self, and_self, vf77_res, vf77_keep, hc, List.length_map, hil, hrow, *]))
    | (refine ite_ngo (fun _ => ?_) (fun _ => ?_) <;> try (simp only [go_sem, Nat.max_zero, List.isEmpty_cons, Int.reduceToNat, Nat.reducePow, Int.reduceEq, Int.reduceNe, Int.reduceLT, Int.reduceLE, Nat.reduceAdd, Nat.reduceLeDiff, ↓reduceIte, Nat.reduceLT, Nat.reduceMul, Nat.reduceSub, reduceCtorEq, frzLoc, rowCells, vAppM, bne_self_eq_false, beq_self_eq_true, beq_true, beq_false, I, B, w, ibeq, ibne, bbeq, decide_eq_false_iff_not, decide_not, Bool.not_not, Decidable.not_not, Bool.not_eq_eq_eq_not, gt_iff_lt, ge_iff_le, and_false, false_and, or_self, and_self, vf77_res, vf77_keep, hc, List.length_map, hil, hrow, *]))
    | (refine ite_go (fun _ => ?_) (fun _ => ?_) <;> try (simp only [go_sem, Nat.max_zero, List.isEmpty_cons, Int.reduceToNat, Nat.reducePow, Int.reduceEq, Int.reduceNe, Int.reduceLT, Int.reduceLE, Nat.reduceAdd, Nat.reduceLeDiff, ↓reduceIte, Nat.reduceLT, Nat.reduceMul, Nat.reduceSub, reduceCtorEq, frzLoc, rowCells, vAppM, bne_self_eq_false, beq_self_eq_true, beq_true, beq_false, I, B, w, ibeq, ibne, bbeq, decide_eq_false_iff_not, decide_not, Bool.not_not, Decidable.not_not, Bool.not_eq_eq_eq_not, gt_iff_lt, ge_iff_le, and_false, false_and, or_self, and_self, vf77_res, vf77_keep, hc, List.length_map, hil, hrow, *]))))
end Go.Proofs.Ytgiciiknagelhaa
