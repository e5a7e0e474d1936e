/- Messages on the machine, third part: opening, and the laws SessionBinds and SessionWrites: they answer true. Conditions: none. -/
import Derived.Test.YtahiikdkgbbmfaaVc
import Derived.Test.YtahiikdkgbbmfaaSes2
set_option linter.unusedSimpArgs false
namespace Go.Proofs.Ytahiikdkgbbmfaa
open Go.VM
theorem e58ctx (tc mc : List V) (h1 : V.erL tc = tc) (h2 : V.ltbL 3 tc = true) (h3 : V.erL mc = mc) (h4 : V.ltbL 3 mc = true) : CtxOk [tc, mc, []] 2 :=
  .of (by simp) (by simp [h1, h3, V.erL]) (by simp [h2, h4, V.ltbL])
set_option maxHeartbeats 4000000 in
theorem e58 (t : Tm) (hl : ∀ u ∈ t.args, u.args.length < 1000000) : CV VP 58 [t.ag] [] = some ⟨shapeV t.shape, [], [], 0⟩ := by
  unfold Tm.shape
  obtain ⟨a, b, l⟩ := t
  simp only [Tm.ag, Tm.op_mk, Tm.val_mk, Tm.args_mk] at hl ⊢
  by_cases ha : a = 3
  case neg =>
    simp only [ha, if_false, shapeR, shapeV, Ik.zero, Ik.ag, Ik.cells]
    refine CV_run (vf := vf58) rfl rfl ?_
    rw [vf58_start]
    (repeat' (first
    | refine RX_seq ?_
    | refine RX_block ?_
    | ((first | refine RX_reg ?_ | refine RX_cond' ?_ | refine RX_draw0 ?_ | refine RX_draw rfl ?_ | refine RX_skip ?_ | refine RX_exit ?_ | refine RX_ret ?_); try (simp only [go_sem, Int.reduceToNat, Nat.reducePow, Int.reduceEq, Int.reduceNe, Int.reduceLT, Int.reduceLE, Nat.reduceAdd, Nat.reduceLeDiff, ↓reduceIte, Nat.reduceLT, Nat.reduceMul, Nat.reduceSub, reduceCtorEq, frzLoc, rowCells, vAppM, bne_self_eq_false, beq_self_eq_true, beq_true, beq_false, I, B, w, ibeq, ibne, bbeq, decide_eq_false_iff_not, decide_not, Bool.not_not, Decidable.not_not, Bool.not_eq_eq_eq_not, gt_iff_lt, ge_iff_le, and_false, false_and, or_self, and_self, vf58_res, vf58_keep, *]))
    | (refine ite_ngo (fun _ => ?_) (fun _ => ?_) <;> try (simp only [go_sem, Int.reduceToNat, Nat.reducePow, Int.reduceEq, Int.reduceNe, Int.reduceLT, Int.reduceLE, Nat.reduceAdd, Nat.reduceLeDiff, ↓reduceIte, Nat.reduceLT, Nat.reduceMul, Nat.reduceSub, reduceCtorEq, frzLoc, rowCells, vAppM, bne_self_eq_false, beq_self_eq_true, beq_true, beq_false, I, B, w, ibeq, ibne, bbeq, decide_eq_false_iff_not, decide_not, Bool.not_not, Decidable.not_not, Bool.not_eq_eq_eq_not, gt_iff_lt, ge_iff_le, and_false, false_and, or_self, and_self, vf58_res, vf58_keep, *]))
    | (refine ite_go (fun _ => ?_) (fun _ => ?_) <;> try (simp only [go_sem, Int.reduceToNat, Nat.reducePow, Int.reduceEq, Int.reduceNe, Int.reduceLT, Int.reduceLE, Nat.reduceAdd, Nat.reduceLeDiff, ↓reduceIte, Nat.reduceLT, Nat.reduceMul, Nat.reduceSub, reduceCtorEq, frzLoc, rowCells, vAppM, bne_self_eq_false, beq_self_eq_true, beq_true, beq_false, I, B, w, ibeq, ibne, bbeq, decide_eq_false_iff_not, decide_not, Bool.not_not, Decidable.not_not, Bool.not_eq_eq_eq_not, gt_iff_lt, ge_iff_le, and_false, false_and, or_self, and_self, vf58_res, vf58_keep, *]))))
  subst ha
  simp only [if_true]
  by_cases hlen : l.length = 6
  case neg =>
    rw [rdHead_len hlen]
    simp only [shapeR, shapeV, Ik.zero, Ik.ag, Ik.cells]
    have hl2 : ¬ (l.length : Int) = 6 := by omega
    refine CV_run (vf := vf58) rfl rfl ?_
    rw [vf58_start]
    (repeat' (first
    | refine RX_seq ?_
    | refine RX_block ?_
    | ((first | refine RX_reg ?_ | refine RX_cond' ?_ | refine RX_draw0 ?_ | refine RX_draw rfl ?_ | refine RX_skip ?_ | refine RX_exit ?_ | refine RX_ret ?_); try (simp only [go_sem, Int.reduceToNat, Nat.reducePow, Int.reduceEq, Int.reduceNe, Int.reduceLT, Int.reduceLE, Nat.reduceAdd, Nat.reduceLeDiff, ↓reduceIte, Nat.reduceLT, Nat.reduceMul, Nat.reduceSub, reduceCtorEq, frzLoc, rowCells, vAppM, bne_self_eq_false, beq_self_eq_true, beq_true, beq_false, I, B, w, ibeq, ibne, bbeq, decide_eq_false_iff_not, decide_not, Bool.not_not, Decidable.not_not, Bool.not_eq_eq_eq_not, gt_iff_lt, ge_iff_le, and_false, false_and, or_self, and_self, vf58_res, vf58_keep, List.length_map, *]))
    | (refine ite_ngo (fun _ => ?_) (fun _ => ?_) <;> try (simp only [go_sem, Int.reduceToNat, Nat.reducePow, Int.reduceEq, Int.reduceNe, Int.reduceLT, Int.reduceLE, Nat.reduceAdd, Nat.reduceLeDiff, ↓reduceIte, Nat.reduceLT, Nat.reduceMul, Nat.reduceSub, reduceCtorEq, frzLoc, rowCells, vAppM, bne_self_eq_false, beq_self_eq_true, beq_true, beq_false, I, B, w, ibeq, ibne, bbeq, decide_eq_false_iff_not, decide_not, Bool.not_not, Decidable.not_not, Bool.not_eq_eq_eq_not, gt_iff_lt, ge_iff_le, and_false, false_and, or_self, and_self, vf58_res, vf58_keep, List.length_map, *]))
    | (refine ite_go (fun _ => ?_) (fun _ => ?_) <;> try (simp only [go_sem, Int.reduceToNat, Nat.reducePow, Int.reduceEq, Int.reduceNe, Int.reduceLT, Int.reduceLE, Nat.reduceAdd, Nat.reduceLeDiff, ↓reduceIte, Nat.reduceLT, Nat.reduceMul, Nat.reduceSub, reduceCtorEq, frzLoc, rowCells, vAppM, bne_self_eq_false, beq_self_eq_true, beq_true, beq_false, I, B, w, ibeq, ibne, bbeq, decide_eq_false_iff_not, decide_not, Bool.not_not, Decidable.not_not, Bool.not_eq_eq_eq_not, gt_iff_lt, ge_iff_le, and_false, false_and, or_self, and_self, vf58_res, vf58_keep, List.length_map, *]))))
  obtain ⟨x0, x1, x2, x3, x4, r, rfl⟩ := list6 l hlen
  have h95 := e95 r (hl r (by simp))
  clear hlen hl
  simp only [List.map_cons, List.map_nil, Tm.row_eq, Tm.ag] at h95 ⊢
  generalize hrows : [[I x0.op, I x0.val, D.sl (x0.args.map Tm.row)], [I x1.op, I x1.val, .sl (x1.args.map Tm.row)], [I x2.op, I x2.val, .sl (x2.args.map Tm.row)], [I x3.op, I x3.val, .sl (x3.args.map Tm.row)], [I x4.op, I x4.val, .sl (x4.args.map Tm.row)], [I r.op, I r.val, .sl (r.args.map Tm.row)]] = rows
  have hrl : rows.length = 6 := by rw [← hrows]; rfl
  have hr5 : rows[5]? = some [I r.op, I r.val, .sl (r.args.map Tm.row)] := by rw [← hrows]; rfl
  have c (mc : List V) (h3 : V.erL mc = mc) (h4 : V.ltbL 3 mc = true) := e58ctx [.d (I 3), .d (I b), .d (.sl rows)] mc rfl rfl h3 h4
  have q0 : ∀ ka kb kc ke : Int, CV VP 87 [.ptr 2 0] [[.d (I 3), .d (I b), .d (.sl rows)], [.d (I ka), .d (I kb), .d (I kc), .d (B false), .d (B false), .d (I ke), .d (.sl [])], [.d (.sl rows), .d (I 0), .d (B false)]] = some ⟨.d (I x0.val), [[.d (I 3), .d (I b), .d (.sl rows)], [.d (I ka), .d (I kb), .d (I kc), .d (B false), .d (B false), .d (I ke), .d (.sl [])], [.d (.sl rows), .d (I 1), .d (B (decide (¬ x0.op = 1)))]], [], 0⟩ := fun ka kb kc ke => e87g (n := 0) (by decide) (by rw [hrl]; decide) (by rw [← hrows]; rfl) 2 _ (c _ rfl rfl)
  have q1 : ∀ ka kb kc ke : Int, CV VP 87 [.ptr 2 0] [[.d (I 3), .d (I b), .d (.sl rows)], [.d (I ka), .d (I kb), .d (I kc), .d (B false), .d (B false), .d (I ke), .d (.sl [])], [.d (.sl rows), .d (I 1), .d (B false)]] = some ⟨.d (I x1.val), [[.d (I 3), .d (I b), .d (.sl rows)], [.d (I ka), .d (I kb), .d (I kc), .d (B false), .d (B false), .d (I ke), .d (.sl [])], [.d (.sl rows), .d (I 2), .d (B (decide (¬ x1.op = 1)))]], [], 0⟩ := fun ka kb kc ke => e87g (n := 1) (by decide) (by rw [hrl]; decide) (by rw [← hrows]; rfl) 2 _ (c _ rfl rfl)
  have q2 : ∀ ka kb kc ke : Int, CV VP 87 [.ptr 2 0] [[.d (I 3), .d (I b), .d (.sl rows)], [.d (I ka), .d (I kb), .d (I kc), .d (B false), .d (B false), .d (I ke), .d (.sl [])], [.d (.sl rows), .d (I 2), .d (B false)]] = some ⟨.d (I x2.val), [[.d (I 3), .d (I b), .d (.sl rows)], [.d (I ka), .d (I kb), .d (I kc), .d (B false), .d (B false), .d (I ke), .d (.sl [])], [.d (.sl rows), .d (I 3), .d (B (decide (¬ x2.op = 1)))]], [], 0⟩ := fun ka kb kc ke => e87g (n := 2) (by decide) (by rw [hrl]; decide) (by rw [← hrows]; rfl) 2 _ (c _ rfl rfl)
  have q3 : ∀ ka kb kc ke : Int, CV VP 87 [.ptr 2 0] [[.d (I 3), .d (I b), .d (.sl rows)], [.d (I ka), .d (I kb), .d (I kc), .d (B false), .d (B false), .d (I ke), .d (.sl [])], [.d (.sl rows), .d (I 3), .d (B false)]] = some ⟨.d (I x3.val), [[.d (I 3), .d (I b), .d (.sl rows)], [.d (I ka), .d (I kb), .d (I kc), .d (B false), .d (B false), .d (I ke), .d (.sl [])], [.d (.sl rows), .d (I 4), .d (B (decide (¬ x3.op = 1)))]], [], 0⟩ := fun ka kb kc ke => e87g (n := 3) (by decide) (by rw [hrl]; decide) (by rw [← hrows]; rfl) 2 _ (c _ rfl rfl)
  have q4 : ∀ ka kb kc ke : Int, CV VP 87 [.ptr 2 0] [[.d (I 3), .d (I b), .d (.sl rows)], [.d (I ka), .d (I kb), .d (I kc), .d (B false), .d (B false), .d (I ke), .d (.sl [])], [.d (.sl rows), .d (I 4), .d (B false)]] = some ⟨.d (I x4.val), [[.d (I 3), .d (I b), .d (.sl rows)], [.d (I ka), .d (I kb), .d (I kc), .d (B false), .d (B false), .d (I ke), .d (.sl [])], [.d (.sl rows), .d (I 5), .d (B (decide (¬ x4.op = 1)))]], [], 0⟩ := fun ka kb kc ke => e87g (n := 4) (by decide) (by rw [hrl]; decide) (by rw [← hrows]; rfl) 2 _ (c _ rfl rfl)
  have qb : ∀ ka kb kc ke n : Int, CV VP 87 [.ptr 2 0] [[.d (I 3), .d (I b), .d (.sl rows)], [.d (I ka), .d (I kb), .d (I kc), .d (B false), .d (B false), .d (I ke), .d (.sl [])], [.d (.sl rows), .d (I n), .d (B true)]] = some ⟨.d (I 0), [[.d (I 3), .d (I b), .d (.sl rows)], [.d (I ka), .d (I kb), .d (I kc), .d (B false), .d (B false), .d (I ke), .d (.sl [])], [.d (.sl rows), .d (I n), .d (B true)]], [], 0⟩ := fun ka kb kc ke n => e87b 2 _ (c _ rfl rfl)
  clear hrows c
  simp only [rdHead]
  by_cases h0 : x0.op = 1
  case neg =>
    refine CV_run (vf := vf58) rfl rfl ?_
    rw [vf58_start]
    (repeat' (first
    | refine RX_seq ?_
    | refine RX_block ?_
    | ((first | refine RX_reg ?_ | refine RX_cond' ?_ | refine RX_draw0 ?_ | refine RX_draw rfl ?_ | refine RX_skip ?_ | refine RX_exit ?_ | refine RX_ret ?_); try (simp only [go_sem, Int.reduceToNat, Nat.reducePow, Int.reduceEq, Int.reduceNe, Int.reduceLT, Int.reduceLE, Nat.reduceAdd, Nat.reduceLeDiff, ↓reduceIte, Nat.reduceLT, Nat.reduceMul, Nat.reduceSub, reduceCtorEq, frzLoc, rowCells, vAppM, bne_self_eq_false, beq_self_eq_true, beq_true, beq_false, I, B, w, ibeq, ibne, bbeq, decide_eq_false_iff_not, decide_not, Bool.not_not, Decidable.not_not, Bool.not_eq_eq_eq_not, gt_iff_lt, ge_iff_le, and_false, false_and, or_self, and_self, vf58_res, vf58_keep, IntKind.bits, shapeR, shapeV, Ik.zero, Ik.ag, Ik.cells, List.map_cons, List.map_nil, *]))
    | (refine ite_ngo (fun _ => ?_) (fun _ => ?_) <;> try (simp only [go_sem, Int.reduceToNat, Nat.reducePow, Int.reduceEq, Int.reduceNe, Int.reduceLT, Int.reduceLE, Nat.reduceAdd, Nat.reduceLeDiff, ↓reduceIte, Nat.reduceLT, Nat.reduceMul, Nat.reduceSub, reduceCtorEq, frzLoc, rowCells, vAppM, bne_self_eq_false, beq_self_eq_true, beq_true, beq_false, I, B, w, ibeq, ibne, bbeq, decide_eq_false_iff_not, decide_not, Bool.not_not, Decidable.not_not, Bool.not_eq_eq_eq_not, gt_iff_lt, ge_iff_le, and_false, false_and, or_self, and_self, vf58_res, vf58_keep, IntKind.bits, shapeR, shapeV, Ik.zero, Ik.ag, Ik.cells, List.map_cons, List.map_nil, *]))
    | (refine ite_go (fun _ => ?_) (fun _ => ?_) <;> try (simp only [go_sem, Int.reduceToNat, Nat.reducePow, Int.reduceEq, Int.reduceNe, Int.reduceLT, Int.reduceLE, Nat.reduceAdd, Nat.reduceLeDiff, ↓reduceIte, Nat.reduceLT, Nat.reduceMul, Nat.reduceSub, reduceCtorEq, frzLoc, rowCells, vAppM, bne_self_eq_false, beq_self_eq_true, beq_true, beq_false, I, B, w, ibeq, ibne, bbeq, decide_eq_false_iff_not, decide_not, Bool.not_not, Decidable.not_not, Bool.not_eq_eq_eq_not, gt_iff_lt, ge_iff_le, and_false, false_and, or_self, and_self, vf58_res, vf58_keep, IntKind.bits, shapeR, shapeV, Ik.zero, Ik.ag, Ik.cells, List.map_cons, List.map_nil, *]))))
  by_cases h1 : x1.op = 1
  case neg =>
    refine CV_run (vf := vf58) rfl rfl ?_
    rw [vf58_start]
    (repeat' (first
    | refine RX_seq ?_
    | refine RX_block ?_
    | ((first | refine RX_reg ?_ | refine RX_cond' ?_ | refine RX_draw0 ?_ | refine RX_draw rfl ?_ | refine RX_skip ?_ | refine RX_exit ?_ | refine RX_ret ?_); try (simp only [go_sem, Int.reduceToNat, Nat.reducePow, Int.reduceEq, Int.reduceNe, Int.reduceLT, Int.reduceLE, Nat.reduceAdd, Nat.reduceLeDiff, ↓reduceIte, Nat.reduceLT, Nat.reduceMul, Nat.reduceSub, reduceCtorEq, frzLoc, rowCells, vAppM, bne_self_eq_false, beq_self_eq_true, beq_true, beq_false, I, B, w, ibeq, ibne, bbeq, decide_eq_false_iff_not, decide_not, Bool.not_not, Decidable.not_not, Bool.not_eq_eq_eq_not, gt_iff_lt, ge_iff_le, and_false, false_and, or_self, and_self, vf58_res, vf58_keep, IntKind.bits, shapeR, shapeV, Ik.zero, Ik.ag, Ik.cells, List.map_cons, List.map_nil, *]))
    | (refine ite_ngo (fun _ => ?_) (fun _ => ?_) <;> try (simp only [go_sem, Int.reduceToNat, Nat.reducePow, Int.reduceEq, Int.reduceNe, Int.reduceLT, Int.reduceLE, Nat.reduceAdd, Nat.reduceLeDiff, ↓reduceIte, Nat.reduceLT, Nat.reduceMul, Nat.reduceSub, reduceCtorEq, frzLoc, rowCells, vAppM, bne_self_eq_false, beq_self_eq_true, beq_true, beq_false, I, B, w, ibeq, ibne, bbeq, decide_eq_false_iff_not, decide_not, Bool.not_not, Decidable.not_not, Bool.not_eq_eq_eq_not, gt_iff_lt, ge_iff_le, and_false, false_and, or_self, and_self, vf58_res, vf58_keep, IntKind.bits, shapeR, shapeV, Ik.zero, Ik.ag, Ik.cells, List.map_cons, List.map_nil, *]))
    | (refine ite_go (fun _ => ?_) (fun _ => ?_) <;> try (simp only [go_sem, Int.reduceToNat, Nat.reducePow, Int.reduceEq, Int.reduceNe, Int.reduceLT, Int.reduceLE, Nat.reduceAdd, Nat.reduceLeDiff, ↓reduceIte, Nat.reduceLT, Nat.reduceMul, Nat.reduceSub, reduceCtorEq, frzLoc, rowCells, vAppM, bne_self_eq_false, beq_self_eq_true, beq_true, beq_false, I, B, w, ibeq, ibne, bbeq, decide_eq_false_iff_not, decide_not, Bool.not_not, Decidable.not_not, Bool.not_eq_eq_eq_not, gt_iff_lt, ge_iff_le, and_false, false_and, or_self, and_self, vf58_res, vf58_keep, IntKind.bits, shapeR, shapeV, Ik.zero, Ik.ag, Ik.cells, List.map_cons, List.map_nil, *]))))
  by_cases h2 : x2.op = 1
  case neg =>
    refine CV_run (vf := vf58) rfl rfl ?_
    rw [vf58_start]
    (repeat' (first
    | refine RX_seq ?_
    | refine RX_block ?_
    | ((first | refine RX_reg ?_ | refine RX_cond' ?_ | refine RX_draw0 ?_ | refine RX_draw rfl ?_ | refine RX_skip ?_ | refine RX_exit ?_ | refine RX_ret ?_); try (simp only [go_sem, Int.reduceToNat, Nat.reducePow, Int.reduceEq, Int.reduceNe, Int.reduceLT, Int.reduceLE, Nat.reduceAdd, Nat.reduceLeDiff, ↓reduceIte, Nat.reduceLT, Nat.reduceMul, Nat.reduceSub, reduceCtorEq, frzLoc, rowCells, vAppM, bne_self_eq_false, beq_self_eq_true, beq_true, beq_false, I, B, w, ibeq, ibne, bbeq, decide_eq_false_iff_not, decide_not, Bool.not_not, Decidable.not_not, Bool.not_eq_eq_eq_not, gt_iff_lt, ge_iff_le, and_false, false_and, or_self, and_self, vf58_res, vf58_keep, IntKind.bits, shapeR, shapeV, Ik.zero, Ik.ag, Ik.cells, List.map_cons, List.map_nil, *]))
    | (refine ite_ngo (fun _ => ?_) (fun _ => ?_) <;> try (simp only [go_sem, Int.reduceToNat, Nat.reducePow, Int.reduceEq, Int.reduceNe, Int.reduceLT, Int.reduceLE, Nat.reduceAdd, Nat.reduceLeDiff, ↓reduceIte, Nat.reduceLT, Nat.reduceMul, Nat.reduceSub, reduceCtorEq, frzLoc, rowCells, vAppM, bne_self_eq_false, beq_self_eq_true, beq_true, beq_false, I, B, w, ibeq, ibne, bbeq, decide_eq_false_iff_not, decide_not, Bool.not_not, Decidable.not_not, Bool.not_eq_eq_eq_not, gt_iff_lt, ge_iff_le, and_false, false_and, or_self, and_self, vf58_res, vf58_keep, IntKind.bits, shapeR, shapeV, Ik.zero, Ik.ag, Ik.cells, List.map_cons, List.map_nil, *]))
    | (refine ite_go (fun _ => ?_) (fun _ => ?_) <;> try (simp only [go_sem, Int.reduceToNat, Nat.reducePow, Int.reduceEq, Int.reduceNe, Int.reduceLT, Int.reduceLE, Nat.reduceAdd, Nat.reduceLeDiff, ↓reduceIte, Nat.reduceLT, Nat.reduceMul, Nat.reduceSub, reduceCtorEq, frzLoc, rowCells, vAppM, bne_self_eq_false, beq_self_eq_true, beq_true, beq_false, I, B, w, ibeq, ibne, bbeq, decide_eq_false_iff_not, decide_not, Bool.not_not, Decidable.not_not, Bool.not_eq_eq_eq_not, gt_iff_lt, ge_iff_le, and_false, false_and, or_self, and_self, vf58_res, vf58_keep, IntKind.bits, shapeR, shapeV, Ik.zero, Ik.ag, Ik.cells, List.map_cons, List.map_nil, *]))))
  by_cases h3 : x3.op = 1
  case neg =>
    refine CV_run (vf := vf58) rfl rfl ?_
    rw [vf58_start]
    (repeat' (first
    | refine RX_seq ?_
    | refine RX_block ?_
    | ((first | refine RX_reg ?_ | refine RX_cond' ?_ | refine RX_draw0 ?_ | refine RX_draw rfl ?_ | refine RX_skip ?_ | refine RX_exit ?_ | refine RX_ret ?_); try (simp only [go_sem, Int.reduceToNat, Nat.reducePow, Int.reduceEq, Int.reduceNe, Int.reduceLT, Int.reduceLE, Nat.reduceAdd, Nat.reduceLeDiff, ↓reduceIte, Nat.reduceLT, Nat.reduceMul, Nat.reduceSub, reduceCtorEq, frzLoc, rowCells, vAppM, bne_self_eq_false, beq_self_eq_true, beq_true, beq_false, I, B, w, ibeq, ibne, bbeq, decide_eq_false_iff_not, decide_not, Bool.not_not, Decidable.not_not, Bool.not_eq_eq_eq_not, gt_iff_lt, ge_iff_le, and_false, false_and, or_self, and_self, vf58_res, vf58_keep, IntKind.bits, shapeR, shapeV, Ik.zero, Ik.ag, Ik.cells, List.map_cons, List.map_nil, *]))
    | (refine ite_ngo (fun _ => ?_) (fun _ => ?_) <;> try (simp only [go_sem, Int.reduceToNat, Nat.reducePow, Int.reduceEq, Int.reduceNe, Int.reduceLT, Int.reduceLE, Nat.reduceAdd, Nat.reduceLeDiff, ↓reduceIte, Nat.reduceLT, Nat.reduceMul, Nat.reduceSub, reduceCtorEq, frzLoc, rowCells, vAppM, bne_self_eq_false, beq_self_eq_true, beq_true, beq_false, I, B, w, ibeq, ibne, bbeq, decide_eq_false_iff_not, decide_not, Bool.not_not, Decidable.not_not, Bool.not_eq_eq_eq_not, gt_iff_lt, ge_iff_le, and_false, false_and, or_self, and_self, vf58_res, vf58_keep, IntKind.bits, shapeR, shapeV, Ik.zero, Ik.ag, Ik.cells, List.map_cons, List.map_nil, *]))
    | (refine ite_go (fun _ => ?_) (fun _ => ?_) <;> try (simp only [go_sem, Int.reduceToNat, Nat.reducePow, Int.reduceEq, Int.reduceNe, Int.reduceLT, Int.reduceLE, Nat.reduceAdd, Nat.reduceLeDiff, ↓reduceIte, Nat.reduceLT, Nat.reduceMul, Nat.reduceSub, reduceCtorEq, frzLoc, rowCells, vAppM, bne_self_eq_false, beq_self_eq_true, beq_true, beq_false, I, B, w, ibeq, ibne, bbeq, decide_eq_false_iff_not, decide_not, Bool.not_not, Decidable.not_not, Bool.not_eq_eq_eq_not, gt_iff_lt, ge_iff_le, and_false, false_and, or_self, and_self, vf58_res, vf58_keep, IntKind.bits, shapeR, shapeV, Ik.zero, Ik.ag, Ik.cells, List.map_cons, List.map_nil, *]))))
  by_cases h4 : x4.op = 1
  case neg =>
    refine CV_run (vf := vf58) rfl rfl ?_
    rw [vf58_start]
    (repeat' (first
    | refine RX_seq ?_
    | refine RX_block ?_
    | ((first | refine RX_reg ?_ | refine RX_cond' ?_ | refine RX_draw0 ?_ | refine RX_draw rfl ?_ | refine RX_skip ?_ | refine RX_exit ?_ | refine RX_ret ?_); try (simp only [go_sem, Int.reduceToNat, Nat.reducePow, Int.reduceEq, Int.reduceNe, Int.reduceLT, Int.reduceLE, Nat.reduceAdd, Nat.reduceLeDiff, ↓reduceIte, Nat.reduceLT, Nat.reduceMul, Nat.reduceSub, reduceCtorEq, frzLoc, rowCells, vAppM, bne_self_eq_false, beq_self_eq_true, beq_true, beq_false, I, B, w, ibeq, ibne, bbeq, decide_eq_false_iff_not, decide_not, Bool.not_not, Decidable.not_not, Bool.not_eq_eq_eq_not, gt_iff_lt, ge_iff_le, and_false, false_and, or_self, and_self, vf58_res, vf58_keep, IntKind.bits, shapeR, shapeV, Ik.zero, Ik.ag, Ik.cells, List.map_cons, List.map_nil, *]))
    | (refine ite_ngo (fun _ => ?_) (fun _ => ?_) <;> try (simp only [go_sem, Int.reduceToNat, Nat.reducePow, Int.reduceEq, Int.reduceNe, Int.reduceLT, Int.reduceLE, Nat.reduceAdd, Nat.reduceLeDiff, ↓reduceIte, Nat.reduceLT, Nat.reduceMul, Nat.reduceSub, reduceCtorEq, frzLoc, rowCells, vAppM, bne_self_eq_false, beq_self_eq_true, beq_true, beq_false, I, B, w, ibeq, ibne, bbeq, decide_eq_false_iff_not, decide_not, Bool.not_not, Decidable.not_not, Bool.not_eq_eq_eq_not, gt_iff_lt, ge_iff_le, and_false, false_and, or_self, and_self, vf58_res, vf58_keep, IntKind.bits, shapeR, shapeV, Ik.zero, Ik.ag, Ik.cells, List.map_cons, List.map_nil, *]))
    | (refine ite_go (fun _ => ?_) (fun _ => ?_) <;> try (simp only [go_sem, Int.reduceToNat, Nat.reducePow, Int.reduceEq, Int.reduceNe, Int.reduceLT, Int.reduceLE, Nat.reduceAdd, Nat.reduceLeDiff, ↓reduceIte, Nat.reduceLT, Nat.reduceMul, Nat.reduceSub, reduceCtorEq, frzLoc, rowCells, vAppM, bne_self_eq_false, beq_self_eq_true, beq_true, beq_false, I, B, w, ibeq, ibne, bbeq, decide_eq_false_iff_not, decide_not, Bool.not_not, Decidable.not_not, Bool.not_eq_eq_eq_not, gt_iff_lt, ge_iff_le, and_false, false_and, or_self, and_self, vf58_res, vf58_keep, IntKind.bits, shapeR, shapeV, Ik.zero, Ik.ag, Ik.cells, List.map_cons, List.map_nil, *]))))
  have hc : ((r.args.length : Int) = 2) = (r.args.length = 2) := by apply propext; omega
  cases hp : r.parts with
  | none =>
    rw [hp] at h95
    simp only [partsV] at h95
    refine CV_run (vf := vf58) rfl rfl ?_
    rw [vf58_start]
    (repeat' (first
    | refine RX_seq ?_
    | refine RX_block ?_
    | ((first | refine RX_reg ?_ | refine RX_cond' ?_ | refine RX_draw0 ?_ | refine RX_draw rfl ?_ | refine RX_skip ?_ | refine RX_exit ?_ | refine RX_ret ?_); try (simp only [go_sem, Int.reduceToNat, Nat.reducePow, Int.reduceEq, Int.reduceNe, Int.reduceLT, Int.reduceLE, Nat.reduceAdd, Nat.reduceLeDiff, ↓reduceIte, Nat.reduceLT, Nat.reduceMul, Nat.reduceSub, reduceCtorEq, frzLoc, rowCells, vAppM, bne_self_eq_false, beq_self_eq_true, beq_true, beq_false, I, B, w, ibeq, ibne, bbeq, decide_eq_false_iff_not, decide_not, Bool.not_not, Decidable.not_not, Bool.not_eq_eq_eq_not, gt_iff_lt, ge_iff_le, and_false, false_and, or_self, and_self, vf58_res, vf58_keep, List.length_map, IntKind.bits, shapeR, shapeV, Ik.zero, Ik.ag, Ik.cells, List.map_cons, List.map_nil, *]))
    | (refine ite_ngo (fun _ => ?_) (fun _ => ?_) <;> try (simp only [go_sem, Int.reduceToNat, Nat.reducePow, Int.reduceEq, Int.reduceNe, Int.reduceLT, Int.reduceLE, Nat.reduceAdd, Nat.reduceLeDiff, ↓reduceIte, Nat.reduceLT, Nat.reduceMul, Nat.reduceSub, reduceCtorEq, frzLoc, rowCells, vAppM, bne_self_eq_false, beq_self_eq_true, beq_true, beq_false, I, B, w, ibeq, ibne, bbeq, decide_eq_false_iff_not, decide_not, Bool.not_not, Decidable.not_not, Bool.not_eq_eq_eq_not, gt_iff_lt, ge_iff_le, and_false, false_and, or_self, and_self, vf58_res, vf58_keep, List.length_map, IntKind.bits, shapeR, shapeV, Ik.zero, Ik.ag, Ik.cells, List.map_cons, List.map_nil, *]))
    | (refine ite_go (fun _ => ?_) (fun _ => ?_) <;> try (simp only [go_sem, Int.reduceToNat, Nat.reducePow, Int.reduceEq, Int.reduceNe, Int.reduceLT, Int.reduceLE, Nat.reduceAdd, Nat.reduceLeDiff, ↓reduceIte, Nat.reduceLT, Nat.reduceMul, Nat.reduceSub, reduceCtorEq, frzLoc, rowCells, vAppM, bne_self_eq_false, beq_self_eq_true, beq_true, beq_false, I, B, w, ibeq, ibne, bbeq, decide_eq_false_iff_not, decide_not, Bool.not_not, Decidable.not_not, Bool.not_eq_eq_eq_not, gt_iff_lt, ge_iff_le, and_false, false_and, or_self, and_self, vf58_res, vf58_keep, List.length_map, IntKind.bits, shapeR, shapeV, Ik.zero, Ik.ag, Ik.cells, List.map_cons, List.map_nil, *]))))
    all_goals (have hf : x3.val = 0 ∨ x3.val = 1 ∨ x3.val = 2 ∨ x3.val = 3 := (by omega); generalize x3.val = f at *; rcases hf with rfl | rfl | rfl | rfl <;> rfl)
  | some ps =>
    rw [hp] at h95
    simp only [partsV] at h95
    refine CV_run (vf := vf58) rfl rfl ?_
    rw [vf58_start]
    (repeat' (first
    | refine RX_seq ?_
    | refine RX_block ?_
    | ((first | refine RX_reg ?_ | refine RX_cond' ?_ | refine RX_draw0 ?_ | refine RX_draw rfl ?_ | refine RX_skip ?_ | refine RX_exit ?_ | refine RX_ret ?_); try (simp only [go_sem, Int.reduceToNat, Nat.reducePow, Int.reduceEq, Int.reduceNe, Int.reduceLT, Int.reduceLE, Nat.reduceAdd, Nat.reduceLeDiff, ↓reduceIte, Nat.reduceLT, Nat.reduceMul, Nat.reduceSub, reduceCtorEq, frzLoc, rowCells, vAppM, bne_self_eq_false, beq_self_eq_true, beq_true, beq_false, I, B, w, ibeq, ibne, bbeq, decide_eq_false_iff_not, decide_not, Bool.not_not, Decidable.not_not, Bool.not_eq_eq_eq_not, gt_iff_lt, ge_iff_le, and_false, false_and, or_self, and_self, vf58_res, vf58_keep, List.length_map, IntKind.bits, shapeR, shapeV, Ik.zero, Ik.ag, Ik.cells, List.map_cons, List.map_nil, *]))
    | (refine ite_ngo (fun _ => ?_) (fun _ => ?_) <;> try (simp only [go_sem, Int.reduceToNat, Nat.reducePow, Int.reduceEq, Int.reduceNe, Int.reduceLT, Int.reduceLE, Nat.reduceAdd, Nat.reduceLeDiff, ↓reduceIte, Nat.reduceLT, Nat.reduceMul, Nat.reduceSub, reduceCtorEq, frzLoc, rowCells, vAppM, bne_self_eq_false, beq_self_eq_true, beq_true, beq_false, I, B, w, ibeq, ibne, bbeq, decide_eq_false_iff_not, decide_not, Bool.not_not, Decidable.not_not, Bool.not_eq_eq_eq_not, gt_iff_lt, ge_iff_le, and_false, false_and, or_self, and_self, vf58_res, vf58_keep, List.length_map, IntKind.bits, shapeR, shapeV, Ik.zero, Ik.ag, Ik.cells, List.map_cons, List.map_nil, *]))
    | (refine ite_go (fun _ => ?_) (fun _ => ?_) <;> try (simp only [go_sem, Int.reduceToNat, Nat.reducePow, Int.reduceEq, Int.reduceNe, Int.reduceLT, Int.reduceLE, Nat.reduceAdd, Nat.reduceLeDiff, ↓reduceIte, Nat.reduceLT, Nat.reduceMul, Nat.reduceSub, reduceCtorEq, frzLoc, rowCells, vAppM, bne_self_eq_false, beq_self_eq_true, beq_true, beq_false, I, B, w, ibeq, ibne, bbeq, decide_eq_false_iff_not, decide_not, Bool.not_not, Decidable.not_not, Bool.not_eq_eq_eq_not, gt_iff_lt, ge_iff_le, and_false, false_and, or_self, and_self, vf58_res, vf58_keep, List.length_map, IntKind.bits, shapeR, shapeV, Ik.zero, Ik.ag, Ik.cells, List.map_cons, List.map_nil, *]))))
    all_goals (have hf : x3.val = 0 ∨ x3.val = 1 ∨ x3.val = 2 ∨ x3.val = 3 := (by omega); generalize x3.val = f at *; rcases hf with rfl | rfl | rfl | rfl <;> rfl)
end Go.Proofs.Ytahiikdkgbbmfaa

namespace Go.Proofs.Ytahiikdkgbbmfaa
open Go.VM
def Tm.zero : Tm := .mk 0 0 []
/-- the body of what is sealed with a key -/
def Tm.unseal (key t : Tm) : Option Tm := match t with
  | .mk o _ [a, b] => if o = 7 ∧ a.eqb key = true then some b else none
  | _ => none
def unsV : Option Tm → V
  | some b => .tup [b.ag, .d (B true)]
  | none => .tup [Tm.zero.ag, .d (B false)]
theorem unseal_len {key : Tm} {o v : Int} {l : List Tm} (h : l.length ≠ 2) : Tm.unseal key (.mk o v l) = none := by
  unfold Tm.unseal
  split
  · rename_i h1; cases h1; exact absurd rfl h
  · rfl
theorem list2 {α : Type} : ∀ (l : List α), l.length = 2 → ∃ x0 x1, l = [x0, x1]
  | [x0, x1], _ => ⟨x0, x1, rfl⟩
set_option maxHeartbeats 4000000 in
theorem e98 (key t : Tm) (hs : ∀ u ∈ t.args, u.small) : CV VP 98 [key.ag, t.ag] [] = some ⟨unsV (Tm.unseal key t), [], [], 0⟩ := by
  obtain ⟨o, v, l⟩ := t
  by_cases hl : l.length = 2
  case neg =>
    rw [unseal_len hl]
    simp only [unsV, Tm.zero, Tm.ag, Tm.op_mk, Tm.val_mk, Tm.args_mk, List.map_nil]
    have hl2 : ¬ (l.length : Int) = 2 := by omega
    refine CV_run (vf := vf98) rfl rfl ?_
    rw [vf98_start]
    (repeat' (first
    | refine RX_seq ?_
    | refine RX_block ?_
    | ((first | refine RX_reg ?_ | refine RX_cond' ?_ | refine RX_draw0 ?_ | refine RX_draw rfl ?_ | refine RX_skip ?_ | refine RX_exit ?_ | refine RX_ret ?_); try (simp only [go_sem, Int.reduceToNat, Nat.reducePow, Int.reduceEq, Int.reduceNe, Int.reduceLT, Int.reduceLE, Nat.reduceAdd, Nat.reduceLeDiff, ↓reduceIte, Nat.reduceLT, Nat.reduceMul, Nat.reduceSub, reduceCtorEq, frzLoc, rowCells, vAppM, bne_self_eq_false, beq_self_eq_true, beq_true, beq_false, I, B, w, ibeq, ibne, bbeq, decide_eq_false_iff_not, decide_not, Bool.not_not, Decidable.not_not, Bool.not_eq_eq_eq_not, gt_iff_lt, ge_iff_le, and_false, false_and, or_self, and_self, vf98_res, vf98_keep, List.length_map, *]))
    | (refine ite_ngo (fun _ => ?_) (fun _ => ?_) <;> try (simp only [go_sem, Int.reduceToNat, Nat.reducePow, Int.reduceEq, Int.reduceNe, Int.reduceLT, Int.reduceLE, Nat.reduceAdd, Nat.reduceLeDiff, ↓reduceIte, Nat.reduceLT, Nat.reduceMul, Nat.reduceSub, reduceCtorEq, frzLoc, rowCells, vAppM, bne_self_eq_false, beq_self_eq_true, beq_true, beq_false, I, B, w, ibeq, ibne, bbeq, decide_eq_false_iff_not, decide_not, Bool.not_not, Decidable.not_not, Bool.not_eq_eq_eq_not, gt_iff_lt, ge_iff_le, and_false, false_and, or_self, and_self, vf98_res, vf98_keep, List.length_map, *]))
    | (refine ite_go (fun _ => ?_) (fun _ => ?_) <;> try (simp only [go_sem, Int.reduceToNat, Nat.reducePow, Int.reduceEq, Int.reduceNe, Int.reduceLT, Int.reduceLE, Nat.reduceAdd, Nat.reduceLeDiff, ↓reduceIte, Nat.reduceLT, Nat.reduceMul, Nat.reduceSub, reduceCtorEq, frzLoc, rowCells, vAppM, bne_self_eq_false, beq_self_eq_true, beq_true, beq_false, I, B, w, ibeq, ibne, bbeq, decide_eq_false_iff_not, decide_not, Bool.not_not, Decidable.not_not, Bool.not_eq_eq_eq_not, gt_iff_lt, ge_iff_le, and_false, false_and, or_self, and_self, vf98_res, vf98_keep, List.length_map, *]))))
  obtain ⟨a, b, rfl⟩ := list2 l hl
  have h99 := e99 a key (hs a (by simp [Tm.args]))
  clear hl hs
  simp only [Tm.unseal, unsV, Tm.zero, Tm.ag, Tm.op_mk, Tm.val_mk, Tm.args_mk, List.map_nil, List.map_cons, Tm.row_eq] at h99 ⊢
  cases he : a.eqb key with
  | true =>
    rw [he] at h99
    refine CV_run (vf := vf98) rfl rfl ?_
    rw [vf98_start]
    (repeat' (first
    | refine RX_seq ?_
    | refine RX_block ?_
    | ((first | refine RX_reg ?_ | refine RX_cond' ?_ | refine RX_draw0 ?_ | refine RX_draw rfl ?_ | refine RX_skip ?_ | refine RX_exit ?_ | refine RX_ret ?_); try (simp only [go_sem, Int.reduceToNat, Nat.reducePow, Int.reduceEq, Int.reduceNe, Int.reduceLT, Int.reduceLE, Nat.reduceAdd, Nat.reduceLeDiff, ↓reduceIte, Nat.reduceLT, Nat.reduceMul, Nat.reduceSub, reduceCtorEq, frzLoc, rowCells, vAppM, bne_self_eq_false, beq_self_eq_true, beq_true, beq_false, I, B, w, ibeq, ibne, bbeq, decide_eq_false_iff_not, decide_not, Bool.not_not, Decidable.not_not, Bool.not_eq_eq_eq_not, gt_iff_lt, ge_iff_le, and_false, false_and, or_self, and_self, vf98_res, vf98_keep, unsV, Tm.zero, Tm.ag, Tm.op_mk, Tm.val_mk, Tm.args_mk, List.map_nil, *]))
    | (refine ite_ngo (fun _ => ?_) (fun _ => ?_) <;> try (simp only [go_sem, Int.reduceToNat, Nat.reducePow, Int.reduceEq, Int.reduceNe, Int.reduceLT, Int.reduceLE, Nat.reduceAdd, Nat.reduceLeDiff, ↓reduceIte, Nat.reduceLT, Nat.reduceMul, Nat.reduceSub, reduceCtorEq, frzLoc, rowCells, vAppM, bne_self_eq_false, beq_self_eq_true, beq_true, beq_false, I, B, w, ibeq, ibne, bbeq, decide_eq_false_iff_not, decide_not, Bool.not_not, Decidable.not_not, Bool.not_eq_eq_eq_not, gt_iff_lt, ge_iff_le, and_false, false_and, or_self, and_self, vf98_res, vf98_keep, unsV, Tm.zero, Tm.ag, Tm.op_mk, Tm.val_mk, Tm.args_mk, List.map_nil, *]))
    | (refine ite_go (fun _ => ?_) (fun _ => ?_) <;> try (simp only [go_sem, Int.reduceToNat, Nat.reducePow, Int.reduceEq, Int.reduceNe, Int.reduceLT, Int.reduceLE, Nat.reduceAdd, Nat.reduceLeDiff, ↓reduceIte, Nat.reduceLT, Nat.reduceMul, Nat.reduceSub, reduceCtorEq, frzLoc, rowCells, vAppM, bne_self_eq_false, beq_self_eq_true, beq_true, beq_false, I, B, w, ibeq, ibne, bbeq, decide_eq_false_iff_not, decide_not, Bool.not_not, Decidable.not_not, Bool.not_eq_eq_eq_not, gt_iff_lt, ge_iff_le, and_false, false_and, or_self, and_self, vf98_res, vf98_keep, unsV, Tm.zero, Tm.ag, Tm.op_mk, Tm.val_mk, Tm.args_mk, List.map_nil, *]))))
  | false =>
    rw [he] at h99
    refine CV_run (vf := vf98) rfl rfl ?_
    rw [vf98_start]
    (repeat' (first
    | refine RX_seq ?_
    | refine RX_block ?_
    | ((first | refine RX_reg ?_ | refine RX_cond' ?_ | refine RX_draw0 ?_ | refine RX_draw rfl ?_ | refine RX_skip ?_ | refine RX_exit ?_ | refine RX_ret ?_); try (simp only [go_sem, Int.reduceToNat, Nat.reducePow, Int.reduceEq, Int.reduceNe, Int.reduceLT, Int.reduceLE, Nat.reduceAdd, Nat.reduceLeDiff, ↓reduceIte, Nat.reduceLT, Nat.reduceMul, Nat.reduceSub, reduceCtorEq, frzLoc, rowCells, vAppM, bne_self_eq_false, beq_self_eq_true, beq_true, beq_false, I, B, w, ibeq, ibne, bbeq, decide_eq_false_iff_not, decide_not, Bool.not_not, Decidable.not_not, Bool.not_eq_eq_eq_not, gt_iff_lt, ge_iff_le, and_false, false_and, or_self, and_self, vf98_res, vf98_keep, unsV, Tm.zero, Tm.ag, Tm.op_mk, Tm.val_mk, Tm.args_mk, List.map_nil, *]))
    | (refine ite_ngo (fun _ => ?_) (fun _ => ?_) <;> try (simp only [go_sem, Int.reduceToNat, Nat.reducePow, Int.reduceEq, Int.reduceNe, Int.reduceLT, Int.reduceLE, Nat.reduceAdd, Nat.reduceLeDiff, ↓reduceIte, Nat.reduceLT, Nat.reduceMul, Nat.reduceSub, reduceCtorEq, frzLoc, rowCells, vAppM, bne_self_eq_false, beq_self_eq_true, beq_true, beq_false, I, B, w, ibeq, ibne, bbeq, decide_eq_false_iff_not, decide_not, Bool.not_not, Decidable.not_not, Bool.not_eq_eq_eq_not, gt_iff_lt, ge_iff_le, and_false, false_and, or_self, and_self, vf98_res, vf98_keep, unsV, Tm.zero, Tm.ag, Tm.op_mk, Tm.val_mk, Tm.args_mk, List.map_nil, *]))
    | (refine ite_go (fun _ => ?_) (fun _ => ?_) <;> try (simp only [go_sem, Int.reduceToNat, Nat.reducePow, Int.reduceEq, Int.reduceNe, Int.reduceLT, Int.reduceLE, Nat.reduceAdd, Nat.reduceLeDiff, ↓reduceIte, Nat.reduceLT, Nat.reduceMul, Nat.reduceSub, reduceCtorEq, frzLoc, rowCells, vAppM, bne_self_eq_false, beq_self_eq_true, beq_true, beq_false, I, B, w, ibeq, ibne, bbeq, decide_eq_false_iff_not, decide_not, Bool.not_not, Decidable.not_not, Bool.not_eq_eq_eq_not, gt_iff_lt, ge_iff_le, and_false, false_and, or_self, and_self, vf98_res, vf98_keep, unsV, Tm.zero, Tm.ag, Tm.op_mk, Tm.val_mk, Tm.args_mk, List.map_nil, *]))))
theorem e100 (key t : Tm) (hs : ∀ u ∈ t.args, u.small) : CV VP 100 [key.ag, t.ag] [] = some ⟨unsV (Tm.unseal key t), [], [], 0⟩ := by
  obtain ⟨o, v, l⟩ := t
  by_cases hl : l.length = 2
  case neg =>
    rw [unseal_len hl]
    simp only [unsV, Tm.zero, Tm.ag, Tm.op_mk, Tm.val_mk, Tm.args_mk, List.map_nil]
    have hl2 : ¬ (l.length : Int) = 2 := by omega
    refine CV_run (vf := vf100) rfl rfl ?_
    rw [vf100_start]
    (repeat' (first
    | refine RX_seq ?_
    | refine RX_block ?_
    | ((first | refine RX_reg ?_ | refine RX_cond' ?_ | refine RX_draw0 ?_ | refine RX_draw rfl ?_ | refine RX_skip ?_ | refine RX_exit ?_ | refine RX_ret ?_); try (simp only [go_sem, Int.reduceToNat, Nat.reducePow, Int.reduceEq, Int.reduceNe, Int.reduceLT, Int.reduceLE, Nat.reduceAdd, Nat.reduceLeDiff, ↓reduceIte, Nat.reduceLT, Nat.reduceMul, Nat.reduceSub, reduceCtorEq, frzLoc, rowCells, vAppM, bne_self_eq_false, beq_self_eq_true, beq_true, beq_false, I, B, w, ibeq, ibne, bbeq, decide_eq_false_iff_not, decide_not, Bool.not_not, Decidable.not_not, Bool.not_eq_eq_eq_not, gt_iff_lt, ge_iff_le, and_false, false_and, or_self, and_self, vf100_res, vf100_keep, List.length_map, *]))
    | (refine ite_ngo (fun _ => ?_) (fun _ => ?_) <;> try (simp only [go_sem, Int.reduceToNat, Nat.reducePow, Int.reduceEq, Int.reduceNe, Int.reduceLT, Int.reduceLE, Nat.reduceAdd, Nat.reduceLeDiff, ↓reduceIte, Nat.reduceLT, Nat.reduceMul, Nat.reduceSub, reduceCtorEq, frzLoc, rowCells, vAppM, bne_self_eq_false, beq_self_eq_true, beq_true, beq_false, I, B, w, ibeq, ibne, bbeq, decide_eq_false_iff_not, decide_not, Bool.not_not, Decidable.not_not, Bool.not_eq_eq_eq_not, gt_iff_lt, ge_iff_le, and_false, false_and, or_self, and_self, vf100_res, vf100_keep, List.length_map, *]))
    | (refine ite_go (fun _ => ?_) (fun _ => ?_) <;> try (simp only [go_sem, Int.reduceToNat, Nat.reducePow, Int.reduceEq, Int.reduceNe, Int.reduceLT, Int.reduceLE, Nat.reduceAdd, Nat.reduceLeDiff, ↓reduceIte, Nat.reduceLT, Nat.reduceMul, Nat.reduceSub, reduceCtorEq, frzLoc, rowCells, vAppM, bne_self_eq_false, beq_self_eq_true, beq_true, beq_false, I, B, w, ibeq, ibne, bbeq, decide_eq_false_iff_not, decide_not, Bool.not_not, Decidable.not_not, Bool.not_eq_eq_eq_not, gt_iff_lt, ge_iff_le, and_false, false_and, or_self, and_self, vf100_res, vf100_keep, List.length_map, *]))))
  obtain ⟨a, b, rfl⟩ := list2 l hl
  have h19 := e19 _ a key (Nat.lt_succ_self _) (hs a (by simp [Tm.args]))
  clear hl hs
  simp only [Tm.unseal, unsV, Tm.zero, Tm.ag, Tm.op_mk, Tm.val_mk, Tm.args_mk, List.map_nil, List.map_cons, Tm.row_eq] at h19 ⊢
  cases he : a.eqb key with
  | true =>
    rw [he] at h19
    refine CV_run (vf := vf100) rfl rfl ?_
    rw [vf100_start]
    (repeat' (first
    | refine RX_seq ?_
    | refine RX_block ?_
    | ((first | refine RX_reg ?_ | refine RX_cond' ?_ | refine RX_draw0 ?_ | refine RX_draw rfl ?_ | refine RX_skip ?_ | refine RX_exit ?_ | refine RX_ret ?_); try (simp only [go_sem, Int.reduceToNat, Nat.reducePow, Int.reduceEq, Int.reduceNe, Int.reduceLT, Int.reduceLE, Nat.reduceAdd, Nat.reduceLeDiff, ↓reduceIte, Nat.reduceLT, Nat.reduceMul, Nat.reduceSub, reduceCtorEq, frzLoc, rowCells, vAppM, bne_self_eq_false, beq_self_eq_true, beq_true, beq_false, I, B, w, ibeq, ibne, bbeq, decide_eq_false_iff_not, decide_not, Bool.not_not, Decidable.not_not, Bool.not_eq_eq_eq_not, gt_iff_lt, ge_iff_le, and_false, false_and, or_self, and_self, vf100_res, vf100_keep, unsV, Tm.zero, Tm.ag, Tm.op_mk, Tm.val_mk, Tm.args_mk, List.map_nil, *]))
    | (refine ite_ngo (fun _ => ?_) (fun _ => ?_) <;> try (simp only [go_sem, Int.reduceToNat, Nat.reducePow, Int.reduceEq, Int.reduceNe, Int.reduceLT, Int.reduceLE, Nat.reduceAdd, Nat.reduceLeDiff, ↓reduceIte, Nat.reduceLT, Nat.reduceMul, Nat.reduceSub, reduceCtorEq, frzLoc, rowCells, vAppM, bne_self_eq_false, beq_self_eq_true, beq_true, beq_false, I, B, w, ibeq, ibne, bbeq, decide_eq_false_iff_not, decide_not, Bool.not_not, Decidable.not_not, Bool.not_eq_eq_eq_not, gt_iff_lt, ge_iff_le, and_false, false_and, or_self, and_self, vf100_res, vf100_keep, unsV, Tm.zero, Tm.ag, Tm.op_mk, Tm.val_mk, Tm.args_mk, List.map_nil, *]))
    | (refine ite_go (fun _ => ?_) (fun _ => ?_) <;> try (simp only [go_sem, Int.reduceToNat, Nat.reducePow, Int.reduceEq, Int.reduceNe, Int.reduceLT, Int.reduceLE, Nat.reduceAdd, Nat.reduceLeDiff, ↓reduceIte, Nat.reduceLT, Nat.reduceMul, Nat.reduceSub, reduceCtorEq, frzLoc, rowCells, vAppM, bne_self_eq_false, beq_self_eq_true, beq_true, beq_false, I, B, w, ibeq, ibne, bbeq, decide_eq_false_iff_not, decide_not, Bool.not_not, Decidable.not_not, Bool.not_eq_eq_eq_not, gt_iff_lt, ge_iff_le, and_false, false_and, or_self, and_self, vf100_res, vf100_keep, unsV, Tm.zero, Tm.ag, Tm.op_mk, Tm.val_mk, Tm.args_mk, List.map_nil, *]))))
  | false =>
    rw [he] at h19
    refine CV_run (vf := vf100) rfl rfl ?_
    rw [vf100_start]
    (repeat' (first
    | refine RX_seq ?_
    | refine RX_block ?_
    | ((first | refine RX_reg ?_ | refine RX_cond' ?_ | refine RX_draw0 ?_ | refine RX_draw rfl ?_ | refine RX_skip ?_ | refine RX_exit ?_ | refine RX_ret ?_); try (simp only [go_sem, Int.reduceToNat, Nat.reducePow, Int.reduceEq, Int.reduceNe, Int.reduceLT, Int.reduceLE, Nat.reduceAdd, Nat.reduceLeDiff, ↓reduceIte, Nat.reduceLT, Nat.reduceMul, Nat.reduceSub, reduceCtorEq, frzLoc, rowCells, vAppM, bne_self_eq_false, beq_self_eq_true, beq_true, beq_false, I, B, w, ibeq, ibne, bbeq, decide_eq_false_iff_not, decide_not, Bool.not_not, Decidable.not_not, Bool.not_eq_eq_eq_not, gt_iff_lt, ge_iff_le, and_false, false_and, or_self, and_self, vf100_res, vf100_keep, unsV, Tm.zero, Tm.ag, Tm.op_mk, Tm.val_mk, Tm.args_mk, List.map_nil, *]))
    | (refine ite_ngo (fun _ => ?_) (fun _ => ?_) <;> try (simp only [go_sem, Int.reduceToNat, Nat.reducePow, Int.reduceEq, Int.reduceNe, Int.reduceLT, Int.reduceLE, Nat.reduceAdd, Nat.reduceLeDiff, ↓reduceIte, Nat.reduceLT, Nat.reduceMul, Nat.reduceSub, reduceCtorEq, frzLoc, rowCells, vAppM, bne_self_eq_false, beq_self_eq_true, beq_true, beq_false, I, B, w, ibeq, ibne, bbeq, decide_eq_false_iff_not, decide_not, Bool.not_not, Decidable.not_not, Bool.not_eq_eq_eq_not, gt_iff_lt, ge_iff_le, and_false, false_and, or_self, and_self, vf100_res, vf100_keep, unsV, Tm.zero, Tm.ag, Tm.op_mk, Tm.val_mk, Tm.args_mk, List.map_nil, *]))
    | (refine ite_go (fun _ => ?_) (fun _ => ?_) <;> try (simp only [go_sem, Int.reduceToNat, Nat.reducePow, Int.reduceEq, Int.reduceNe, Int.reduceLT, Int.reduceLE, Nat.reduceAdd, Nat.reduceLeDiff, ↓reduceIte, Nat.reduceLT, Nat.reduceMul, Nat.reduceSub, reduceCtorEq, frzLoc, rowCells, vAppM, bne_self_eq_false, beq_self_eq_true, beq_true, beq_false, I, B, w, ibeq, ibne, bbeq, decide_eq_false_iff_not, decide_not, Bool.not_not, Decidable.not_not, Bool.not_eq_eq_eq_not, gt_iff_lt, ge_iff_le, and_false, false_and, or_self, and_self, vf100_res, vf100_keep, unsV, Tm.zero, Tm.ag, Tm.op_mk, Tm.val_mk, Tm.args_mk, List.map_nil, *]))))
end Go.Proofs.Ytahiikdkgbbmfaa

namespace Go.Proofs.Ytahiikdkgbbmfaa
open Go.VM
-- short lists everywhere
mutual
def Tm.tame : Tm → Prop
  | .mk _ _ args => args.length < 1000000 ∧ Tm.tames args
def Tm.tames : List Tm → Prop
  | [] => True
  | t :: ts => t.tame ∧ Tm.tames ts
end
mutual
theorem Tm.tame.small : ∀ {t : Tm}, t.tame → t.small
  | .mk _ _ args, h => ⟨by have := h.1; omega, Tm.tames.smalls h.2⟩
theorem Tm.tames.smalls : ∀ {ts : List Tm}, Tm.tames ts → Tm.smalls ts
  | [], _ => trivial
  | _ :: _, h => ⟨h.1.small, Tm.tames.smalls h.2⟩
end
theorem Tm.tames_mem : ∀ {ts : List Tm} {t : Tm}, Tm.tames ts → t ∈ ts → t.tame
  | t :: ts, u, h, hu => by
    rcases List.mem_cons.1 hu with rfl | hu
    · exact h.1
    · exact Tm.tames_mem h.2 hu
theorem Tm.tame.len {t : Tm} (h : t.tame) : t.args.length < 1000000 := by obtain ⟨o, v, l⟩ := t; exact h.1
theorem Tm.tame.mem {t u : Tm} (h : t.tame) (hu : u ∈ t.args) : u.tame := by obtain ⟨o, v, l⟩ := t; exact Tm.tames_mem h.2 hu
def openB (m : Ik) (xs : List Tm) : Option Tm → Option Ik
  | some b => if b.op = 3 ∧ b.args.length = 6 ∧ Tm.eqbs (b.args.take 5) (xs.take 5) = true then (match (b.args.getD 5 Tm.zero).parts with | some ps => some { m with parts := ps } | none => none) else none
  | none => none
/-- what a sealed message holds -/
def Tm.openK (key t : Tm) : Option Ik := match t.shape with
  | some (m, true) => openB m t.args (Tm.unseal key (t.args.getD 5 Tm.zero))
  | _ => none
def openV : Option Ik → V
  | some m => .tup [m.ag, .d (B true)]
  | none => .tup [Ik.zero.ag, .d (B false)]
theorem shape_sealed {t : Tm} {m : Ik} (h : t.shape = some (m, true)) : ∃ v x0 x1 x2 x3 x4 rv k b, t = .mk 3 v [x0, x1, x2, x3, x4, .mk 7 rv [k, b]] ∧ m.parts = [] := by
  obtain ⟨o, v, l⟩ := t
  unfold Tm.shape at h
  simp only [Tm.op_mk, Tm.args_mk] at h
  by_cases ho : o = 3
  case neg => simp only [ho, if_false, shapeR, reduceCtorEq] at h
  subst ho
  simp only [if_true] at h
  cases hr : rdHead l with
  | none => rw [hr] at h; simp only [shapeR, reduceCtorEq] at h
  | some p =>
    obtain ⟨m', r⟩ := p
    rw [hr] at h
    obtain ⟨x0, x1, x2, x3, x4, rfl, hm⟩ := rdHead_some hr
    simp only [shapeR] at h
    split at h
    · simp at h
    · split at h
      · rename_i h7
        obtain ⟨ro, rv, ra⟩ := r
        obtain ⟨h71, h72⟩ := h7
        obtain ⟨k, b, rfl⟩ := list2 ra h72
        simp only [Tm.op_mk] at h71
        subst h71
        simp only [Option.some.injEq, Prod.mk.injEq, and_true] at h
        subst h
        exact ⟨v, x0, x1, x2, x3, x4, rv, k, b, rfl, hm⟩
      · cases h
end Go.Proofs.Ytahiikdkgbbmfaa

namespace Go.Proofs.Ytahiikdkgbbmfaa
open Go.VM
set_option maxHeartbeats 8000000 in
theorem e60 (key t : Tm) (ht : t.tame) : CV VP 60 [key.ag, t.ag] [] = some ⟨openV (Tm.openK key t), [], [], 0⟩ := by
  have hsh := e58 t (fun u hu => (ht.mem hu).len)
  unfold Tm.openK
  cases hs : t.shape with
  | none =>
    rw [hs] at hsh
    simp only [shapeV, openV, Ik.zero, Ik.ag, Ik.cells, List.map_cons, List.map_nil, Tm.ag] at hsh ⊢
    refine CV_run (vf := vf60) rfl rfl ?_
    rw [vf60_start]
    (repeat' (first
    | refine RX_seq ?_
    | refine RX_block ?_
    | ((first | refine RX_reg ?_ | refine RX_cond' ?_ | refine RX_draw0 ?_ | refine RX_draw rfl ?_ | refine RX_skip ?_ | refine RX_exit ?_ | refine RX_ret ?_); try (simp only [go_sem, Int.reduceToNat, Nat.reducePow, Int.reduceEq, Int.reduceNe, Int.reduceLT, Int.reduceLE, Nat.reduceAdd, Nat.reduceLeDiff, ↓reduceIte, Nat.reduceLT, Nat.reduceMul, Nat.reduceSub, reduceCtorEq, frzLoc, rowCells, vAppM, bne_self_eq_false, beq_self_eq_true, beq_true, beq_false, I, B, w, ibeq, ibne, bbeq, decide_eq_false_iff_not, decide_not, Bool.not_not, Decidable.not_not, Bool.not_eq_eq_eq_not, gt_iff_lt, ge_iff_le, and_false, false_and, or_self, and_self, vf60_res, vf60_keep, *]))
    | (refine ite_ngo (fun _ => ?_) (fun _ => ?_) <;> try (simp only [go_sem, Int.reduceToNat, Nat.reducePow, Int.reduceEq, Int.reduceNe, Int.reduceLT, Int.reduceLE, Nat.reduceAdd, Nat.reduceLeDiff, ↓reduceIte, Nat.reduceLT, Nat.reduceMul, Nat.reduceSub, reduceCtorEq, frzLoc, rowCells, vAppM, bne_self_eq_false, beq_self_eq_true, beq_true, beq_false, I, B, w, ibeq, ibne, bbeq, decide_eq_false_iff_not, decide_not, Bool.not_not, Decidable.not_not, Bool.not_eq_eq_eq_not, gt_iff_lt, ge_iff_le, and_false, false_and, or_self, and_self, vf60_res, vf60_keep, *]))
    | (refine ite_go (fun _ => ?_) (fun _ => ?_) <;> try (simp only [go_sem, Int.reduceToNat, Nat.reducePow, Int.reduceEq, Int.reduceNe, Int.reduceLT, Int.reduceLE, Nat.reduceAdd, Nat.reduceLeDiff, ↓reduceIte, Nat.reduceLT, Nat.reduceMul, Nat.reduceSub, reduceCtorEq, frzLoc, rowCells, vAppM, bne_self_eq_false, beq_self_eq_true, beq_true, beq_false, I, B, w, ibeq, ibne, bbeq, decide_eq_false_iff_not, decide_not, Bool.not_not, Decidable.not_not, Bool.not_eq_eq_eq_not, gt_iff_lt, ge_iff_le, and_false, false_and, or_self, and_self, vf60_res, vf60_keep, *]))))
  | some p =>
    obtain ⟨m, s⟩ := p
    rw [hs] at hsh
    cases s with
    | false =>
      simp only [shapeV, openV, Ik.zero, Ik.ag, Ik.cells, List.map_cons, List.map_nil, Tm.ag] at hsh ⊢
      refine CV_run (vf := vf60) rfl rfl ?_
      rw [vf60_start]
      (repeat' (first
    | refine RX_seq ?_
    | refine RX_block ?_
    | ((first | refine RX_reg ?_ | refine RX_cond' ?_ | refine RX_draw0 ?_ | refine RX_draw rfl ?_ | refine RX_skip ?_ | refine RX_exit ?_ | refine RX_ret ?_); try (simp only [go_sem, Int.reduceToNat, Nat.reducePow, Int.reduceEq, Int.reduceNe, Int.reduceLT, Int.reduceLE, Nat.reduceAdd, Nat.reduceLeDiff, ↓reduceIte, Nat.reduceLT, Nat.reduceMul, Nat.reduceSub, reduceCtorEq, frzLoc, rowCells, vAppM, bne_self_eq_false, beq_self_eq_true, beq_true, beq_false, I, B, w, ibeq, ibne, bbeq, decide_eq_false_iff_not, decide_not, Bool.not_not, Decidable.not_not, Bool.not_eq_eq_eq_not, gt_iff_lt, ge_iff_le, and_false, false_and, or_self, and_self, vf60_res, vf60_keep, *]))
    | (refine ite_ngo (fun _ => ?_) (fun _ => ?_) <;> try (simp only [go_sem, Int.reduceToNat, Nat.reducePow, Int.reduceEq, Int.reduceNe, Int.reduceLT, Int.reduceLE, Nat.reduceAdd, Nat.reduceLeDiff, ↓reduceIte, Nat.reduceLT, Nat.reduceMul, Nat.reduceSub, reduceCtorEq, frzLoc, rowCells, vAppM, bne_self_eq_false, beq_self_eq_true, beq_true, beq_false, I, B, w, ibeq, ibne, bbeq, decide_eq_false_iff_not, decide_not, Bool.not_not, Decidable.not_not, Bool.not_eq_eq_eq_not, gt_iff_lt, ge_iff_le, and_false, false_and, or_self, and_self, vf60_res, vf60_keep, *]))
    | (refine ite_go (fun _ => ?_) (fun _ => ?_) <;> try (simp only [go_sem, Int.reduceToNat, Nat.reducePow, Int.reduceEq, Int.reduceNe, Int.reduceLT, Int.reduceLE, Nat.reduceAdd, Nat.reduceLeDiff, ↓reduceIte, Nat.reduceLT, Nat.reduceMul, Nat.reduceSub, reduceCtorEq, frzLoc, rowCells, vAppM, bne_self_eq_false, beq_self_eq_true, beq_true, beq_false, I, B, w, ibeq, ibne, bbeq, decide_eq_false_iff_not, decide_not, Bool.not_not, Decidable.not_not, Bool.not_eq_eq_eq_not, gt_iff_lt, ge_iff_le, and_false, false_and, or_self, and_self, vf60_res, vf60_keep, *]))))
    | true =>
      obtain ⟨v, x0, x1, x2, x3, x4, rv, k, b, rfl, hm⟩ := shape_sealed hs
      clear hs
      have hk := ht.mem (u := .mk 7 rv [k, b]) (by simp [Tm.args])
      have hb := hk.mem (u := b) (by simp [Tm.args])
      have hu := e98 key (.mk 7 rv [k, b]) (fun u hu => (hk.mem hu).small)
      simp only [Tm.args_mk, List.getD_cons_succ, List.getD_cons_zero, shapeV, Tm.ag, Tm.op_mk, Tm.val_mk, Ik.ag, Ik.cells, List.map_cons, List.map_nil, Tm.row_eq] at hsh hu ⊢
      obtain ⟨mk, ms, mr, mrep, mini, mid, mps⟩ := m
      simp only at hm
      subst hm
      simp only [List.map_nil] at hsh
      cases huu : Tm.unseal key (.mk 7 rv [k, b]) with
      | none =>
        rw [huu] at hu
        simp only [unsV, Tm.zero, Tm.ag, Tm.op_mk, Tm.val_mk, Tm.args_mk, List.map_nil, openB, openV, Ik.zero, Ik.ag, Ik.cells, List.map_cons] at hu ⊢
        refine CV_run (vf := vf60) rfl rfl ?_
        rw [vf60_start]
        (repeat' (first
    | refine RX_seq ?_
    | refine RX_block ?_
    | ((first | refine RX_reg ?_ | refine RX_cond' ?_ | refine RX_draw0 ?_ | refine RX_draw rfl ?_ | refine RX_skip ?_ | refine RX_exit ?_ | refine RX_ret ?_); try (simp only [go_sem, Int.reduceToNat, Nat.reducePow, Int.reduceEq, Int.reduceNe, Int.reduceLT, Int.reduceLE, Nat.reduceAdd, Nat.reduceLeDiff, ↓reduceIte, Nat.reduceLT, Nat.reduceMul, Nat.reduceSub, reduceCtorEq, frzLoc, rowCells, vAppM, bne_self_eq_false, beq_self_eq_true, beq_true, beq_false, I, B, w, ibeq, ibne, bbeq, decide_eq_false_iff_not, decide_not, Bool.not_not, Decidable.not_not, Bool.not_eq_eq_eq_not, gt_iff_lt, ge_iff_le, and_false, false_and, or_self, and_self, vf60_res, vf60_keep, *]))
    | (refine ite_ngo (fun _ => ?_) (fun _ => ?_) <;> try (simp only [go_sem, Int.reduceToNat, Nat.reducePow, Int.reduceEq, Int.reduceNe, Int.reduceLT, Int.reduceLE, Nat.reduceAdd, Nat.reduceLeDiff, ↓reduceIte, Nat.reduceLT, Nat.reduceMul, Nat.reduceSub, reduceCtorEq, frzLoc, rowCells, vAppM, bne_self_eq_false, beq_self_eq_true, beq_true, beq_false, I, B, w, ibeq, ibne, bbeq, decide_eq_false_iff_not, decide_not, Bool.not_not, Decidable.not_not, Bool.not_eq_eq_eq_not, gt_iff_lt, ge_iff_le, and_false, false_and, or_self, and_self, vf60_res, vf60_keep, *]))
    | (refine ite_go (fun _ => ?_) (fun _ => ?_) <;> try (simp only [go_sem, Int.reduceToNat, Nat.reducePow, Int.reduceEq, Int.reduceNe, Int.reduceLT, Int.reduceLE, Nat.reduceAdd, Nat.reduceLeDiff, ↓reduceIte, Nat.reduceLT, Nat.reduceMul, Nat.reduceSub, reduceCtorEq, frzLoc, rowCells, vAppM, bne_self_eq_false, beq_self_eq_true, beq_true, beq_false, I, B, w, ibeq, ibne, bbeq, decide_eq_false_iff_not, decide_not, Bool.not_not, Decidable.not_not, Bool.not_eq_eq_eq_not, gt_iff_lt, ge_iff_le, and_false, false_and, or_self, and_self, vf60_res, vf60_keep, *]))))
      | some bb =>
        have hbb : bb = b := by
          unfold Tm.unseal at huu
          simp only at huu
          split at huu
          · cases huu; rfl
          · cases huu
        subst hbb
        rw [huu] at hu
        clear huu hk ht
        obtain ⟨bo, bv, L⟩ := bb
        simp only [unsV, Tm.zero, Tm.ag, Tm.op_mk, Tm.val_mk, Tm.args_mk, openB] at hsh hu ⊢
        by_cases ho : bo = 3
        case neg =>
          simp only [ho, false_and, if_false, openV, Ik.zero, Ik.ag, Ik.cells, List.map_cons, List.map_nil]
          refine CV_run (vf := vf60) rfl rfl ?_
          rw [vf60_start]
          (repeat' (first
    | refine RX_seq ?_
    | refine RX_block ?_
    | ((first | refine RX_reg ?_ | refine RX_cond' ?_ | refine RX_draw0 ?_ | refine RX_draw rfl ?_ | refine RX_skip ?_ | refine RX_exit ?_ | refine RX_ret ?_); try (simp only [go_sem, Int.reduceToNat, Nat.reducePow, Int.reduceEq, Int.reduceNe, Int.reduceLT, Int.reduceLE, Nat.reduceAdd, Nat.reduceLeDiff, ↓reduceIte, Nat.reduceLT, Nat.reduceMul, Nat.reduceSub, reduceCtorEq, frzLoc, rowCells, vAppM, bne_self_eq_false, beq_self_eq_true, beq_true, beq_false, I, B, w, ibeq, ibne, bbeq, decide_eq_false_iff_not, decide_not, Bool.not_not, Decidable.not_not, Bool.not_eq_eq_eq_not, gt_iff_lt, ge_iff_le, and_false, false_and, or_self, and_self, vf60_res, vf60_keep, List.length_map, *]))
    | (refine ite_ngo (fun _ => ?_) (fun _ => ?_) <;> try (simp only [go_sem, Int.reduceToNat, Nat.reducePow, Int.reduceEq, Int.reduceNe, Int.reduceLT, Int.reduceLE, Nat.reduceAdd, Nat.reduceLeDiff, ↓reduceIte, Nat.reduceLT, Nat.reduceMul, Nat.reduceSub, reduceCtorEq, frzLoc, rowCells, vAppM, bne_self_eq_false, beq_self_eq_true, beq_true, beq_false, I, B, w, ibeq, ibne, bbeq, decide_eq_false_iff_not, decide_not, Bool.not_not, Decidable.not_not, Bool.not_eq_eq_eq_not, gt_iff_lt, ge_iff_le, and_false, false_and, or_self, and_self, vf60_res, vf60_keep, List.length_map, *]))
    | (refine ite_go (fun _ => ?_) (fun _ => ?_) <;> try (simp only [go_sem, Int.reduceToNat, Nat.reducePow, Int.reduceEq, Int.reduceNe, Int.reduceLT, Int.reduceLE, Nat.reduceAdd, Nat.reduceLeDiff, ↓reduceIte, Nat.reduceLT, Nat.reduceMul, Nat.reduceSub, reduceCtorEq, frzLoc, rowCells, vAppM, bne_self_eq_false, beq_self_eq_true, beq_true, beq_false, I, B, w, ibeq, ibne, bbeq, decide_eq_false_iff_not, decide_not, Bool.not_not, Decidable.not_not, Bool.not_eq_eq_eq_not, gt_iff_lt, ge_iff_le, and_false, false_and, or_self, and_self, vf60_res, vf60_keep, List.length_map, *]))))
        subst ho
        by_cases hl : L.length = 6
        case neg =>
          have hl2 : ¬ (L.length : Int) = 6 := by omega
          simp only [hl, true_and, false_and, if_false, openV, Ik.zero, Ik.ag, Ik.cells, List.map_cons, List.map_nil]
          refine CV_run (vf := vf60) rfl rfl ?_
          rw [vf60_start]
          (repeat' (first
    | refine RX_seq ?_
    | refine RX_block ?_
    | ((first | refine RX_reg ?_ | refine RX_cond' ?_ | refine RX_draw0 ?_ | refine RX_draw rfl ?_ | refine RX_skip ?_ | refine RX_exit ?_ | refine RX_ret ?_); try (simp only [go_sem, Int.reduceToNat, Nat.reducePow, Int.reduceEq, Int.reduceNe, Int.reduceLT, Int.reduceLE, Nat.reduceAdd, Nat.reduceLeDiff, ↓reduceIte, Nat.reduceLT, Nat.reduceMul, Nat.reduceSub, reduceCtorEq, frzLoc, rowCells, vAppM, bne_self_eq_false, beq_self_eq_true, beq_true, beq_false, I, B, w, ibeq, ibne, bbeq, decide_eq_false_iff_not, decide_not, Bool.not_not, Decidable.not_not, Bool.not_eq_eq_eq_not, gt_iff_lt, ge_iff_le, and_false, false_and, or_self, and_self, vf60_res, vf60_keep, List.length_map, *]))
    | (refine ite_ngo (fun _ => ?_) (fun _ => ?_) <;> try (simp only [go_sem, Int.reduceToNat, Nat.reducePow, Int.reduceEq, Int.reduceNe, Int.reduceLT, Int.reduceLE, Nat.reduceAdd, Nat.reduceLeDiff, ↓reduceIte, Nat.reduceLT, Nat.reduceMul, Nat.reduceSub, reduceCtorEq, frzLoc, rowCells, vAppM, bne_self_eq_false, beq_self_eq_true, beq_true, beq_false, I, B, w, ibeq, ibne, bbeq, decide_eq_false_iff_not, decide_not, Bool.not_not, Decidable.not_not, Bool.not_eq_eq_eq_not, gt_iff_lt, ge_iff_le, and_false, false_and, or_self, and_self, vf60_res, vf60_keep, List.length_map, *]))
    | (refine ite_go (fun _ => ?_) (fun _ => ?_) <;> try (simp only [go_sem, Int.reduceToNat, Nat.reducePow, Int.reduceEq, Int.reduceNe, Int.reduceLT, Int.reduceLE, Nat.reduceAdd, Nat.reduceLeDiff, ↓reduceIte, Nat.reduceLT, Nat.reduceMul, Nat.reduceSub, reduceCtorEq, frzLoc, rowCells, vAppM, bne_self_eq_false, beq_self_eq_true, beq_true, beq_false, I, B, w, ibeq, ibne, bbeq, decide_eq_false_iff_not, decide_not, Bool.not_not, Decidable.not_not, Bool.not_eq_eq_eq_not, gt_iff_lt, ge_iff_le, and_false, false_and, or_self, and_self, vf60_res, vf60_keep, List.length_map, *]))))
        obtain ⟨y0, y1, y2, y3, y4, y5, rfl⟩ := list6 L hl
        clear hl
        have hp := e95 y5 (hb.mem (u := y5) (by simp [Tm.args])).len
        have c0 := e99 y0 x0 (hb.mem (u := y0) (by simp [Tm.args])).small
        have c1 := e99 y1 x1 (hb.mem (u := y1) (by simp [Tm.args])).small
        have c2 := e99 y2 x2 (hb.mem (u := y2) (by simp [Tm.args])).small
        have c3 := e99 y3 x3 (hb.mem (u := y3) (by simp [Tm.args])).small
        have c4 := e99 y4 x4 (hb.mem (u := y4) (by simp [Tm.args])).small
        clear hb
        simp only [List.length_cons, List.length_nil, Nat.zero_add, Nat.reduceAdd, true_and, List.take_succ_cons, List.take_zero, List.getD_cons_succ, List.getD_cons_zero, List.map_cons, List.map_nil, Tm.row_eq, Tm.ag] at hp c0 c1 c2 c3 c4 hu hsh ⊢
        simp only [Tm.eqbs, Bool.and_true]
        have w0 : IntKind.i64.wrap (0 + 1) = 1 := rfl
        have w1 : IntKind.i64.wrap (1 + 1) = 2 := rfl
        have w2 : IntKind.i64.wrap (2 + 1) = 3 := rfl
        have w3 : IntKind.i64.wrap (3 + 1) = 4 := rfl
        have w4 : IntKind.i64.wrap (4 + 1) = 5 := rfl
        cases d0 : y0.eqb x0 with
        | false =>
          rw [d0] at c0
          simp only [Bool.false_and, Bool.and_false, Bool.true_and, Bool.false_eq_true, if_false, openV, Ik.zero, Ik.ag, Ik.cells, List.map_cons, List.map_nil]
          refine CV_run (vf := vf60) rfl rfl ?_
          rw [vf60_start]
          (repeat' (first
    | refine RX_seq ?_
    | refine RX_block ?_
    | ((first | refine RX_reg ?_ | refine RX_cond' ?_ | refine RX_draw0 ?_ | refine RX_draw rfl ?_ | refine RX_skip ?_ | refine RX_exit ?_ | refine RX_ret ?_); try (simp only [go_sem, Int.reduceToNat, Nat.reducePow, Int.reduceEq, Int.reduceNe, Int.reduceLT, Int.reduceLE, Nat.reduceAdd, Nat.reduceLeDiff, ↓reduceIte, Nat.reduceLT, Nat.reduceMul, Nat.reduceSub, reduceCtorEq, frzLoc, rowCells, vAppM, bne_self_eq_false, beq_self_eq_true, beq_true, beq_false, I, B, w, ibeq, ibne, bbeq, decide_eq_false_iff_not, decide_not, Bool.not_not, Decidable.not_not, Bool.not_eq_eq_eq_not, gt_iff_lt, ge_iff_le, and_false, false_and, or_self, and_self, vf60_res, vf60_keep, *]))
    | (refine ite_ngo (fun _ => ?_) (fun _ => ?_) <;> try (simp only [go_sem, Int.reduceToNat, Nat.reducePow, Int.reduceEq, Int.reduceNe, Int.reduceLT, Int.reduceLE, Nat.reduceAdd, Nat.reduceLeDiff, ↓reduceIte, Nat.reduceLT, Nat.reduceMul, Nat.reduceSub, reduceCtorEq, frzLoc, rowCells, vAppM, bne_self_eq_false, beq_self_eq_true, beq_true, beq_false, I, B, w, ibeq, ibne, bbeq, decide_eq_false_iff_not, decide_not, Bool.not_not, Decidable.not_not, Bool.not_eq_eq_eq_not, gt_iff_lt, ge_iff_le, and_false, false_and, or_self, and_self, vf60_res, vf60_keep, *]))
    | (refine ite_go (fun _ => ?_) (fun _ => ?_) <;> try (simp only [go_sem, Int.reduceToNat, Nat.reducePow, Int.reduceEq, Int.reduceNe, Int.reduceLT, Int.reduceLE, Nat.reduceAdd, Nat.reduceLeDiff, ↓reduceIte, Nat.reduceLT, Nat.reduceMul, Nat.reduceSub, reduceCtorEq, frzLoc, rowCells, vAppM, bne_self_eq_false, beq_self_eq_true, beq_true, beq_false, I, B, w, ibeq, ibne, bbeq, decide_eq_false_iff_not, decide_not, Bool.not_not, Decidable.not_not, Bool.not_eq_eq_eq_not, gt_iff_lt, ge_iff_le, and_false, false_and, or_self, and_self, vf60_res, vf60_keep, *]))
    | (refine RL_head ?_; simp only [go_sem, Int.reduceToNat, Nat.reducePow, Int.reduceEq, Int.reduceNe, Int.reduceLT, Int.reduceLE, Nat.reduceAdd, Nat.reduceLeDiff, ↓reduceIte, Nat.reduceLT, Nat.reduceMul, Nat.reduceSub, reduceCtorEq, frzLoc, rowCells, vAppM, bne_self_eq_false, beq_self_eq_true, beq_true, beq_false, I, B, w, ibeq, ibne, bbeq, decide_eq_false_iff_not, decide_not, Bool.not_not, Decidable.not_not, Bool.not_eq_eq_eq_not, gt_iff_lt, ge_iff_le, and_false, false_and, or_self, and_self, vf60_res, vf60_keep, *, St.head, forget, vf60K0, RLK_some]; refine vf60L0_go ?_)
    | refine RX_loop ?_))
        | true =>
        rw [d0] at c0
        cases d1 : y1.eqb x1 with
        | false =>
          rw [d1] at c1
          simp only [Bool.false_and, Bool.and_false, Bool.true_and, Bool.false_eq_true, if_false, openV, Ik.zero, Ik.ag, Ik.cells, List.map_cons, List.map_nil]
          refine CV_run (vf := vf60) rfl rfl ?_
          rw [vf60_start]
          (repeat' (first
    | refine RX_seq ?_
    | refine RX_block ?_
    | ((first | refine RX_reg ?_ | refine RX_cond' ?_ | refine RX_draw0 ?_ | refine RX_draw rfl ?_ | refine RX_skip ?_ | refine RX_exit ?_ | refine RX_ret ?_); try (simp only [go_sem, Int.reduceToNat, Nat.reducePow, Int.reduceEq, Int.reduceNe, Int.reduceLT, Int.reduceLE, Nat.reduceAdd, Nat.reduceLeDiff, ↓reduceIte, Nat.reduceLT, Nat.reduceMul, Nat.reduceSub, reduceCtorEq, frzLoc, rowCells, vAppM, bne_self_eq_false, beq_self_eq_true, beq_true, beq_false, I, B, w, ibeq, ibne, bbeq, decide_eq_false_iff_not, decide_not, Bool.not_not, Decidable.not_not, Bool.not_eq_eq_eq_not, gt_iff_lt, ge_iff_le, and_false, false_and, or_self, and_self, vf60_res, vf60_keep, *]))
    | (refine ite_ngo (fun _ => ?_) (fun _ => ?_) <;> try (simp only [go_sem, Int.reduceToNat, Nat.reducePow, Int.reduceEq, Int.reduceNe, Int.reduceLT, Int.reduceLE, Nat.reduceAdd, Nat.reduceLeDiff, ↓reduceIte, Nat.reduceLT, Nat.reduceMul, Nat.reduceSub, reduceCtorEq, frzLoc, rowCells, vAppM, bne_self_eq_false, beq_self_eq_true, beq_true, beq_false, I, B, w, ibeq, ibne, bbeq, decide_eq_false_iff_not, decide_not, Bool.not_not, Decidable.not_not, Bool.not_eq_eq_eq_not, gt_iff_lt, ge_iff_le, and_false, false_and, or_self, and_self, vf60_res, vf60_keep, *]))
    | (refine ite_go (fun _ => ?_) (fun _ => ?_) <;> try (simp only [go_sem, Int.reduceToNat, Nat.reducePow, Int.reduceEq, Int.reduceNe, Int.reduceLT, Int.reduceLE, Nat.reduceAdd, Nat.reduceLeDiff, ↓reduceIte, Nat.reduceLT, Nat.reduceMul, Nat.reduceSub, reduceCtorEq, frzLoc, rowCells, vAppM, bne_self_eq_false, beq_self_eq_true, beq_true, beq_false, I, B, w, ibeq, ibne, bbeq, decide_eq_false_iff_not, decide_not, Bool.not_not, Decidable.not_not, Bool.not_eq_eq_eq_not, gt_iff_lt, ge_iff_le, and_false, false_and, or_self, and_self, vf60_res, vf60_keep, *]))
    | (refine RL_head ?_; simp only [go_sem, Int.reduceToNat, Nat.reducePow, Int.reduceEq, Int.reduceNe, Int.reduceLT, Int.reduceLE, Nat.reduceAdd, Nat.reduceLeDiff, ↓reduceIte, Nat.reduceLT, Nat.reduceMul, Nat.reduceSub, reduceCtorEq, frzLoc, rowCells, vAppM, bne_self_eq_false, beq_self_eq_true, beq_true, beq_false, I, B, w, ibeq, ibne, bbeq, decide_eq_false_iff_not, decide_not, Bool.not_not, Decidable.not_not, Bool.not_eq_eq_eq_not, gt_iff_lt, ge_iff_le, and_false, false_and, or_self, and_self, vf60_res, vf60_keep, *, St.head, forget, vf60K0, RLK_some]; refine vf60L0_go ?_)
    | refine RX_loop ?_))
        | true =>
        rw [d1] at c1
        cases d2 : y2.eqb x2 with
        | false =>
          rw [d2] at c2
          simp only [Bool.false_and, Bool.and_false, Bool.true_and, Bool.false_eq_true, if_false, openV, Ik.zero, Ik.ag, Ik.cells, List.map_cons, List.map_nil]
          refine CV_run (vf := vf60) rfl rfl ?_
          rw [vf60_start]
          (repeat' (first
    | refine RX_seq ?_
    | refine RX_block ?_
    | ((first | refine RX_reg ?_ | refine RX_cond' ?_ | refine RX_draw0 ?_ | refine RX_draw rfl ?_ | refine RX_skip ?_ | refine RX_exit ?_ | refine RX_ret ?_); try (simp only [go_sem, Int.reduceToNat, Nat.reducePow, Int.reduceEq, Int.reduceNe, Int.reduceLT, Int.reduceLE, Nat.reduceAdd, Nat.reduceLeDiff, ↓reduceIte, Nat.reduceLT, Nat.reduceMul, Nat.reduceSub, reduceCtorEq, frzLoc, rowCells, vAppM, bne_self_eq_false, beq_self_eq_true, beq_true, beq_false, I, B, w, ibeq, ibne, bbeq, decide_eq_false_iff_not, decide_not, Bool.not_not, Decidable.not_not, Bool.not_eq_eq_eq_not, gt_iff_lt, ge_iff_le, and_false, false_and, or_self, and_self, vf60_res, vf60_keep, *]))
    | (refine ite_ngo (fun _ => ?_) (fun _ => ?_) <;> try (simp only [go_sem, Int.reduceToNat, Nat.reducePow, Int.reduceEq, Int.reduceNe, Int.reduceLT, Int.reduceLE, Nat.reduceAdd, Nat.reduceLeDiff, ↓reduceIte, Nat.reduceLT, Nat.reduceMul, Nat.reduceSub, reduceCtorEq, frzLoc, rowCells, vAppM, bne_self_eq_false, beq_self_eq_true, beq_true, beq_false, I, B, w, ibeq, ibne, bbeq, decide_eq_false_iff_not, decide_not, Bool.not_not, Decidable.not_not, Bool.not_eq_eq_eq_not, gt_iff_lt, ge_iff_le, and_false, false_and, or_self, and_self, vf60_res, vf60_keep, *]))
    | (refine ite_go (fun _ => ?_) (fun _ => ?_) <;> try (simp only [go_sem, Int.reduceToNat, Nat.reducePow, Int.reduceEq, Int.reduceNe, Int.reduceLT, Int.reduceLE, Nat.reduceAdd, Nat.reduceLeDiff, ↓reduceIte, Nat.reduceLT, Nat.reduceMul, Nat.reduceSub, reduceCtorEq, frzLoc, rowCells, vAppM, bne_self_eq_false, beq_self_eq_true, beq_true, beq_false, I, B, w, ibeq, ibne, bbeq, decide_eq_false_iff_not, decide_not, Bool.not_not, Decidable.not_not, Bool.not_eq_eq_eq_not, gt_iff_lt, ge_iff_le, and_false, false_and, or_self, and_self, vf60_res, vf60_keep, *]))
    | (refine RL_head ?_; simp only [go_sem, Int.reduceToNat, Nat.reducePow, Int.reduceEq, Int.reduceNe, Int.reduceLT, Int.reduceLE, Nat.reduceAdd, Nat.reduceLeDiff, ↓reduceIte, Nat.reduceLT, Nat.reduceMul, Nat.reduceSub, reduceCtorEq, frzLoc, rowCells, vAppM, bne_self_eq_false, beq_self_eq_true, beq_true, beq_false, I, B, w, ibeq, ibne, bbeq, decide_eq_false_iff_not, decide_not, Bool.not_not, Decidable.not_not, Bool.not_eq_eq_eq_not, gt_iff_lt, ge_iff_le, and_false, false_and, or_self, and_self, vf60_res, vf60_keep, *, St.head, forget, vf60K0, RLK_some]; refine vf60L0_go ?_)
    | refine RX_loop ?_))
        | true =>
        rw [d2] at c2
        cases d3 : y3.eqb x3 with
        | false =>
          rw [d3] at c3
          simp only [Bool.false_and, Bool.and_false, Bool.true_and, Bool.false_eq_true, if_false, openV, Ik.zero, Ik.ag, Ik.cells, List.map_cons, List.map_nil]
          refine CV_run (vf := vf60) rfl rfl ?_
          rw [vf60_start]
          (repeat' (first
    | refine RX_seq ?_
    | refine RX_block ?_
    | ((first | refine RX_reg ?_ | refine RX_cond' ?_ | refine RX_draw0 ?_ | refine RX_draw rfl ?_ | refine RX_skip ?_ | refine RX_exit ?_ | refine RX_ret ?_); try (simp only [go_sem, Int.reduceToNat, Nat.reducePow, Int.reduceEq, Int.reduceNe, Int.reduceLT, Int.reduceLE, Nat.reduceAdd, Nat.reduceLeDiff, ↓reduceIte, Nat.reduceLT, Nat.reduceMul, Nat.reduceSub, reduceCtorEq, frzLoc, rowCells, vAppM, bne_self_eq_false, beq_self_eq_true, beq_true, beq_false, I, B, w, ibeq, ibne, bbeq, decide_eq_false_iff_not, decide_not, Bool.not_not, Decidable.not_not, Bool.not_eq_eq_eq_not, gt_iff_lt, ge_iff_le, and_false, false_and, or_self, and_self, vf60_res, vf60_keep, *]))
    | (refine ite_ngo (fun _ => ?_) (fun _ => ?_) <;> try (simp only [go_sem, Int.reduceToNat, Nat.reducePow, Int.reduceEq, Int.reduceNe, Int.reduceLT, Int.reduceLE, Nat.reduceAdd, Nat.reduceLeDiff, ↓reduceIte, Nat.reduceLT, Nat.reduceMul, Nat.reduceSub, reduceCtorEq, frzLoc, rowCells, vAppM, bne_self_eq_false, beq_self_eq_true, beq_true, beq_false, I, B, w, ibeq, ibne, bbeq, decide_eq_false_iff_not, decide_not, Bool.not_not, Decidable.not_not, Bool.not_eq_eq_eq_not, gt_iff_lt, ge_iff_le, and_false, false_and, or_self, and_self, vf60_res, vf60_keep, *]))
    | (refine ite_go (fun _ => ?_) (fun _ => ?_) <;> try (simp only [go_sem, Int.reduceToNat, Nat.reducePow, Int.reduceEq, Int.reduceNe, Int.reduceLT, Int.reduceLE, Nat.reduceAdd, Nat.reduceLeDiff, ↓reduceIte, Nat.reduceLT, Nat.reduceMul, Nat.reduceSub, reduceCtorEq, frzLoc, rowCells, vAppM, bne_self_eq_false, beq_self_eq_true, beq_true, beq_false, I, B, w, ibeq, ibne, bbeq, decide_eq_false_iff_not, decide_not, Bool.not_not, Decidable.not_not, Bool.not_eq_eq_eq_not, gt_iff_lt, ge_iff_le, and_false, false_and, or_self, and_self, vf60_res, vf60_keep, *]))
    | (refine RL_head ?_; simp only [go_sem, Int.reduceToNat, Nat.reducePow, Int.reduceEq, Int.reduceNe, Int.reduceLT, Int.reduceLE, Nat.reduceAdd, Nat.reduceLeDiff, ↓reduceIte, Nat.reduceLT, Nat.reduceMul, Nat.reduceSub, reduceCtorEq, frzLoc, rowCells, vAppM, bne_self_eq_false, beq_self_eq_true, beq_true, beq_false, I, B, w, ibeq, ibne, bbeq, decide_eq_false_iff_not, decide_not, Bool.not_not, Decidable.not_not, Bool.not_eq_eq_eq_not, gt_iff_lt, ge_iff_le, and_false, false_and, or_self, and_self, vf60_res, vf60_keep, *, St.head, forget, vf60K0, RLK_some]; refine vf60L0_go ?_)
    | refine RX_loop ?_))
        | true =>
        rw [d3] at c3
        cases d4 : y4.eqb x4 with
        | false =>
          rw [d4] at c4
          simp only [Bool.false_and, Bool.and_false, Bool.true_and, Bool.false_eq_true, if_false, openV, Ik.zero, Ik.ag, Ik.cells, List.map_cons, List.map_nil]
          refine CV_run (vf := vf60) rfl rfl ?_
          rw [vf60_start]
          (repeat' (first
    | refine RX_seq ?_
    | refine RX_block ?_
    | ((first | refine RX_reg ?_ | refine RX_cond' ?_ | refine RX_draw0 ?_ | refine RX_draw rfl ?_ | refine RX_skip ?_ | refine RX_exit ?_ | refine RX_ret ?_); try (simp only [go_sem, Int.reduceToNat, Nat.reducePow, Int.reduceEq, Int.reduceNe, Int.reduceLT, Int.reduceLE, Nat.reduceAdd, Nat.reduceLeDiff, ↓reduceIte, Nat.reduceLT, Nat.reduceMul, Nat.reduceSub, reduceCtorEq, frzLoc, rowCells, vAppM, bne_self_eq_false, beq_self_eq_true, beq_true, beq_false, I, B, w, ibeq, ibne, bbeq, decide_eq_false_iff_not, decide_not, Bool.not_not, Decidable.not_not, Bool.not_eq_eq_eq_not, gt_iff_lt, ge_iff_le, and_false, false_and, or_self, and_self, vf60_res, vf60_keep, *]))
    | (refine ite_ngo (fun _ => ?_) (fun _ => ?_) <;> try (simp only [go_sem, Int.reduceToNat, Nat.reducePow, Int.reduceEq, Int.reduceNe, Int.reduceLT, Int.reduceLE, Nat.reduceAdd, Nat.reduceLeDiff, ↓reduceIte, Nat.reduceLT, Nat.reduceMul, Nat.reduceSub, reduceCtorEq, frzLoc, rowCells, vAppM, bne_self_eq_false, beq_self_eq_true, beq_true, beq_false, I, B, w, ibeq, ibne, bbeq, decide_eq_false_iff_not, decide_not, Bool.not_not, Decidable.not_not, Bool.not_eq_eq_eq_not, gt_iff_lt, ge_iff_le, and_false, false_and, or_self, and_self, vf60_res, vf60_keep, *]))
    | (refine ite_go (fun _ => ?_) (fun _ => ?_) <;> try (simp only [go_sem, Int.reduceToNat, Nat.reducePow, Int.reduceEq, Int.reduceNe, Int.reduceLT, Int.reduceLE, Nat.reduceAdd, Nat.reduceLeDiff, ↓reduceIte, Nat.reduceLT, Nat.reduceMul, Nat.reduceSub, reduceCtorEq, frzLoc, rowCells, vAppM, bne_self_eq_false, beq_self_eq_true, beq_true, beq_false, I, B, w, ibeq, ibne, bbeq, decide_eq_false_iff_not, decide_not, Bool.not_not, Decidable.not_not, Bool.not_eq_eq_eq_not, gt_iff_lt, ge_iff_le, and_false, false_and, or_self, and_self, vf60_res, vf60_keep, *]))
    | (refine RL_head ?_; simp only [go_sem, Int.reduceToNat, Nat.reducePow, Int.reduceEq, Int.reduceNe, Int.reduceLT, Int.reduceLE, Nat.reduceAdd, Nat.reduceLeDiff, ↓reduceIte, Nat.reduceLT, Nat.reduceMul, Nat.reduceSub, reduceCtorEq, frzLoc, rowCells, vAppM, bne_self_eq_false, beq_self_eq_true, beq_true, beq_false, I, B, w, ibeq, ibne, bbeq, decide_eq_false_iff_not, decide_not, Bool.not_not, Decidable.not_not, Bool.not_eq_eq_eq_not, gt_iff_lt, ge_iff_le, and_false, false_and, or_self, and_self, vf60_res, vf60_keep, *, St.head, forget, vf60K0, RLK_some]; refine vf60L0_go ?_)
    | refine RX_loop ?_))
        | true =>
        rw [d4] at c4
        simp only [Bool.true_and, if_true]
        cases hps : y5.parts with
        | none =>
          rw [hps] at hp
          simp only [partsV, openV, Ik.zero, Ik.ag, Ik.cells, List.map_cons, List.map_nil] at hp ⊢
          refine CV_run (vf := vf60) rfl rfl ?_
          rw [vf60_start]
          (repeat' (first
    | refine RX_seq ?_
    | refine RX_block ?_
    | ((first | refine RX_reg ?_ | refine RX_cond' ?_ | refine RX_draw0 ?_ | refine RX_draw rfl ?_ | refine RX_skip ?_ | refine RX_exit ?_ | refine RX_ret ?_); try (simp only [go_sem, Int.reduceToNat, Nat.reducePow, Int.reduceEq, Int.reduceNe, Int.reduceLT, Int.reduceLE, Nat.reduceAdd, Nat.reduceLeDiff, ↓reduceIte, Nat.reduceLT, Nat.reduceMul, Nat.reduceSub, reduceCtorEq, frzLoc, rowCells, vAppM, bne_self_eq_false, beq_self_eq_true, beq_true, beq_false, I, B, w, ibeq, ibne, bbeq, decide_eq_false_iff_not, decide_not, Bool.not_not, Decidable.not_not, Bool.not_eq_eq_eq_not, gt_iff_lt, ge_iff_le, and_false, false_and, or_self, and_self, vf60_res, vf60_keep, *]))
    | (refine ite_ngo (fun _ => ?_) (fun _ => ?_) <;> try (simp only [go_sem, Int.reduceToNat, Nat.reducePow, Int.reduceEq, Int.reduceNe, Int.reduceLT, Int.reduceLE, Nat.reduceAdd, Nat.reduceLeDiff, ↓reduceIte, Nat.reduceLT, Nat.reduceMul, Nat.reduceSub, reduceCtorEq, frzLoc, rowCells, vAppM, bne_self_eq_false, beq_self_eq_true, beq_true, beq_false, I, B, w, ibeq, ibne, bbeq, decide_eq_false_iff_not, decide_not, Bool.not_not, Decidable.not_not, Bool.not_eq_eq_eq_not, gt_iff_lt, ge_iff_le, and_false, false_and, or_self, and_self, vf60_res, vf60_keep, *]))
    | (refine ite_go (fun _ => ?_) (fun _ => ?_) <;> try (simp only [go_sem, Int.reduceToNat, Nat.reducePow, Int.reduceEq, Int.reduceNe, Int.reduceLT, Int.reduceLE, Nat.reduceAdd, Nat.reduceLeDiff, ↓reduceIte, Nat.reduceLT, Nat.reduceMul, Nat.reduceSub, reduceCtorEq, frzLoc, rowCells, vAppM, bne_self_eq_false, beq_self_eq_true, beq_true, beq_false, I, B, w, ibeq, ibne, bbeq, decide_eq_false_iff_not, decide_not, Bool.not_not, Decidable.not_not, Bool.not_eq_eq_eq_not, gt_iff_lt, ge_iff_le, and_false, false_and, or_self, and_self, vf60_res, vf60_keep, *]))
    | (refine RL_head ?_; simp only [go_sem, Int.reduceToNat, Nat.reducePow, Int.reduceEq, Int.reduceNe, Int.reduceLT, Int.reduceLE, Nat.reduceAdd, Nat.reduceLeDiff, ↓reduceIte, Nat.reduceLT, Nat.reduceMul, Nat.reduceSub, reduceCtorEq, frzLoc, rowCells, vAppM, bne_self_eq_false, beq_self_eq_true, beq_true, beq_false, I, B, w, ibeq, ibne, bbeq, decide_eq_false_iff_not, decide_not, Bool.not_not, Decidable.not_not, Bool.not_eq_eq_eq_not, gt_iff_lt, ge_iff_le, and_false, false_and, or_self, and_self, vf60_res, vf60_keep, *, St.head, forget, vf60K0, RLK_some]; refine vf60L0_go ?_)
    | refine RX_loop ?_))
        | some ps =>
          rw [hps] at hp
          simp only [partsV, openV, Ik.zero, Ik.ag, Ik.cells, List.map_cons, List.map_nil] at hp ⊢
          refine CV_run (vf := vf60) rfl rfl ?_
          rw [vf60_start]
          (repeat' (first
    | refine RX_seq ?_
    | refine RX_block ?_
    | ((first | refine RX_reg ?_ | refine RX_cond' ?_ | refine RX_draw0 ?_ | refine RX_draw rfl ?_ | refine RX_skip ?_ | refine RX_exit ?_ | refine RX_ret ?_); try (simp only [go_sem, Int.reduceToNat, Nat.reducePow, Int.reduceEq, Int.reduceNe, Int.reduceLT, Int.reduceLE, Nat.reduceAdd, Nat.reduceLeDiff, ↓reduceIte, Nat.reduceLT, Nat.reduceMul, Nat.reduceSub, reduceCtorEq, frzLoc, rowCells, vAppM, bne_self_eq_false, beq_self_eq_true, beq_true, beq_false, I, B, w, ibeq, ibne, bbeq, decide_eq_false_iff_not, decide_not, Bool.not_not, Decidable.not_not, Bool.not_eq_eq_eq_not, gt_iff_lt, ge_iff_le, and_false, false_and, or_self, and_self, vf60_res, vf60_keep, *]))
    | (refine ite_ngo (fun _ => ?_) (fun _ => ?_) <;> try (simp only [go_sem, Int.reduceToNat, Nat.reducePow, Int.reduceEq, Int.reduceNe, Int.reduceLT, Int.reduceLE, Nat.reduceAdd, Nat.reduceLeDiff, ↓reduceIte, Nat.reduceLT, Nat.reduceMul, Nat.reduceSub, reduceCtorEq, frzLoc, rowCells, vAppM, bne_self_eq_false, beq_self_eq_true, beq_true, beq_false, I, B, w, ibeq, ibne, bbeq, decide_eq_false_iff_not, decide_not, Bool.not_not, Decidable.not_not, Bool.not_eq_eq_eq_not, gt_iff_lt, ge_iff_le, and_false, false_and, or_self, and_self, vf60_res, vf60_keep, *]))
    | (refine ite_go (fun _ => ?_) (fun _ => ?_) <;> try (simp only [go_sem, Int.reduceToNat, Nat.reducePow, Int.reduceEq, Int.reduceNe, Int.reduceLT, Int.reduceLE, Nat.reduceAdd, Nat.reduceLeDiff, ↓reduceIte, Nat.reduceLT, Nat.reduceMul, Nat.reduceSub, reduceCtorEq, frzLoc, rowCells, vAppM, bne_self_eq_false, beq_self_eq_true, beq_true, beq_false, I, B, w, ibeq, ibne, bbeq, decide_eq_false_iff_not, decide_not, Bool.not_not, Decidable.not_not, Bool.not_eq_eq_eq_not, gt_iff_lt, ge_iff_le, and_false, false_and, or_self, and_self, vf60_res, vf60_keep, *]))
    | (refine RL_head ?_; simp only [go_sem, Int.reduceToNat, Nat.reducePow, Int.reduceEq, Int.reduceNe, Int.reduceLT, Int.reduceLE, Nat.reduceAdd, Nat.reduceLeDiff, ↓reduceIte, Nat.reduceLT, Nat.reduceMul, Nat.reduceSub, reduceCtorEq, frzLoc, rowCells, vAppM, bne_self_eq_false, beq_self_eq_true, beq_true, beq_false, I, B, w, ibeq, ibne, bbeq, decide_eq_false_iff_not, decide_not, Bool.not_not, Decidable.not_not, Bool.not_eq_eq_eq_not, gt_iff_lt, ge_iff_le, and_false, false_and, or_self, and_self, vf60_res, vf60_keep, *, St.head, forget, vf60K0, RLK_some]; refine vf60L0_go ?_)
    | refine RX_loop ?_))
set_option maxHeartbeats 8000000 in
theorem e61 (key t : Tm) (ht : t.tame) : CV VP 61 [key.ag, t.ag] [] = some ⟨openV (Tm.openK key t), [], [], 0⟩ := by
  have hsh := e59 t (fun u hu => (ht.mem hu).len)
  unfold Tm.openK
  cases hs : t.shape with
  | none =>
    rw [hs] at hsh
    simp only [shapeV, openV, Ik.zero, Ik.ag, Ik.cells, List.map_cons, List.map_nil, Tm.ag] at hsh ⊢
    refine CV_run (vf := vf61) rfl rfl ?_
    rw [vf61_start]
    (repeat' (first
    | refine RX_seq ?_
    | refine RX_block ?_
    | ((first | refine RX_reg ?_ | refine RX_cond' ?_ | refine RX_draw0 ?_ | refine RX_draw rfl ?_ | refine RX_skip ?_ | refine RX_exit ?_ | refine RX_ret ?_); try (simp only [go_sem, Int.reduceToNat, Nat.reducePow, Int.reduceEq, Int.reduceNe, Int.reduceLT, Int.reduceLE, Nat.reduceAdd, Nat.reduceLeDiff, ↓reduceIte, Nat.reduceLT, Nat.reduceMul, Nat.reduceSub, reduceCtorEq, frzLoc, rowCells, vAppM, bne_self_eq_false, beq_self_eq_true, beq_true, beq_false, I, B, w, ibeq, ibne, bbeq, decide_eq_false_iff_not, decide_not, Bool.not_not, Decidable.not_not, Bool.not_eq_eq_eq_not, gt_iff_lt, ge_iff_le, and_false, false_and, or_self, and_self, vf61_res, vf61_keep, *]))
    | (refine ite_ngo (fun _ => ?_) (fun _ => ?_) <;> try (simp only [go_sem, Int.reduceToNat, Nat.reducePow, Int.reduceEq, Int.reduceNe, Int.reduceLT, Int.reduceLE, Nat.reduceAdd, Nat.reduceLeDiff, ↓reduceIte, Nat.reduceLT, Nat.reduceMul, Nat.reduceSub, reduceCtorEq, frzLoc, rowCells, vAppM, bne_self_eq_false, beq_self_eq_true, beq_true, beq_false, I, B, w, ibeq, ibne, bbeq, decide_eq_false_iff_not, decide_not, Bool.not_not, Decidable.not_not, Bool.not_eq_eq_eq_not, gt_iff_lt, ge_iff_le, and_false, false_and, or_self, and_self, vf61_res, vf61_keep, *]))
    | (refine ite_go (fun _ => ?_) (fun _ => ?_) <;> try (simp only [go_sem, Int.reduceToNat, Nat.reducePow, Int.reduceEq, Int.reduceNe, Int.reduceLT, Int.reduceLE, Nat.reduceAdd, Nat.reduceLeDiff, ↓reduceIte, Nat.reduceLT, Nat.reduceMul, Nat.reduceSub, reduceCtorEq, frzLoc, rowCells, vAppM, bne_self_eq_false, beq_self_eq_true, beq_true, beq_false, I, B, w, ibeq, ibne, bbeq, decide_eq_false_iff_not, decide_not, Bool.not_not, Decidable.not_not, Bool.not_eq_eq_eq_not, gt_iff_lt, ge_iff_le, and_false, false_and, or_self, and_self, vf61_res, vf61_keep, *]))))
  | some p =>
    obtain ⟨m, s⟩ := p
    rw [hs] at hsh
    cases s with
    | false =>
      simp only [shapeV, openV, Ik.zero, Ik.ag, Ik.cells, List.map_cons, List.map_nil, Tm.ag] at hsh ⊢
      refine CV_run (vf := vf61) rfl rfl ?_
      rw [vf61_start]
      (repeat' (first
    | refine RX_seq ?_
    | refine RX_block ?_
    | ((first | refine RX_reg ?_ | refine RX_cond' ?_ | refine RX_draw0 ?_ | refine RX_draw rfl ?_ | refine RX_skip ?_ | refine RX_exit ?_ | refine RX_ret ?_); try (simp only [go_sem, Int.reduceToNat, Nat.reducePow, Int.reduceEq, Int.reduceNe, Int.reduceLT, Int.reduceLE, Nat.reduceAdd, Nat.reduceLeDiff, ↓reduceIte, Nat.reduceLT, Nat.reduceMul, Nat.reduceSub, reduceCtorEq, frzLoc, rowCells, vAppM, bne_self_eq_false, beq_self_eq_true, beq_true, beq_false, I, B, w, ibeq, ibne, bbeq, decide_eq_false_iff_not, decide_not, Bool.not_not, Decidable.not_not, Bool.not_eq_eq_eq_not, gt_iff_lt, ge_iff_le, and_false, false_and, or_self, and_self, vf61_res, vf61_keep, *]))
    | (refine ite_ngo (fun _ => ?_) (fun _ => ?_) <;> try (simp only [go_sem, Int.reduceToNat, Nat.reducePow, Int.reduceEq, Int.reduceNe, Int.reduceLT, Int.reduceLE, Nat.reduceAdd, Nat.reduceLeDiff, ↓reduceIte, Nat.reduceLT, Nat.reduceMul, Nat.reduceSub, reduceCtorEq, frzLoc, rowCells, vAppM, bne_self_eq_false, beq_self_eq_true, beq_true, beq_false, I, B, w, ibeq, ibne, bbeq, decide_eq_false_iff_not, decide_not, Bool.not_not, Decidable.not_not, Bool.not_eq_eq_eq_not, gt_iff_lt, ge_iff_le, and_false, false_and, or_self, and_self, vf61_res, vf61_keep, *]))
    | (refine ite_go (fun _ => ?_) (fun _ => ?_) <;> try (simp only [go_sem, Int.reduceToNat, Nat.reducePow, Int.reduceEq, Int.reduceNe, Int.reduceLT, Int.reduceLE, Nat.reduceAdd, Nat.reduceLeDiff, ↓reduceIte, Nat.reduceLT, Nat.reduceMul, Nat.reduceSub, reduceCtorEq, frzLoc, rowCells, vAppM, bne_self_eq_false, beq_self_eq_true, beq_true, beq_false, I, B, w, ibeq, ibne, bbeq, decide_eq_false_iff_not, decide_not, Bool.not_not, Decidable.not_not, Bool.not_eq_eq_eq_not, gt_iff_lt, ge_iff_le, and_false, false_and, or_self, and_self, vf61_res, vf61_keep, *]))))
    | true =>
      obtain ⟨v, x0, x1, x2, x3, x4, rv, k, b, rfl, hm⟩ := shape_sealed hs
      clear hs
      have hk := ht.mem (u := .mk 7 rv [k, b]) (by simp [Tm.args])
      have hb := hk.mem (u := b) (by simp [Tm.args])
      have hu := e100 key (.mk 7 rv [k, b]) (fun u hu => (hk.mem hu).small)
      simp only [Tm.args_mk, List.getD_cons_succ, List.getD_cons_zero, shapeV, Tm.ag, Tm.op_mk, Tm.val_mk, Ik.ag, Ik.cells, List.map_cons, List.map_nil, Tm.row_eq] at hsh hu ⊢
      obtain ⟨mk, ms, mr, mrep, mini, mid, mps⟩ := m
      simp only at hm
      subst hm
      simp only [List.map_nil] at hsh
      cases huu : Tm.unseal key (.mk 7 rv [k, b]) with
      | none =>
        rw [huu] at hu
        simp only [unsV, Tm.zero, Tm.ag, Tm.op_mk, Tm.val_mk, Tm.args_mk, List.map_nil, openB, openV, Ik.zero, Ik.ag, Ik.cells, List.map_cons] at hu ⊢
        refine CV_run (vf := vf61) rfl rfl ?_
        rw [vf61_start]
        (repeat' (first
    | refine RX_seq ?_
    | refine RX_block ?_
    | ((first | refine RX_reg ?_ | refine RX_cond' ?_ | refine RX_draw0 ?_ | refine RX_draw rfl ?_ | refine RX_skip ?_ | refine RX_exit ?_ | refine RX_ret ?_); try (simp only [go_sem, Int.reduceToNat, Nat.reducePow, Int.reduceEq, Int.reduceNe, Int.reduceLT, Int.reduceLE, Nat.reduceAdd, Nat.reduceLeDiff, ↓reduceIte, Nat.reduceLT, Nat.reduceMul, Nat.reduceSub, reduceCtorEq, frzLoc, rowCells, vAppM, bne_self_eq_false, beq_self_eq_true, beq_true, beq_false, I, B, w, ibeq, ibne, bbeq, decide_eq_false_iff_not, decide_not, Bool.not_not, Decidable.not_not, Bool.not_eq_eq_eq_not, gt_iff_lt, ge_iff_le, and_false, false_and, or_self, and_self, vf61_res, vf61_keep, *]))
    | (refine ite_ngo (fun _ => ?_) (fun _ => ?_) <;> try (simp only [go_sem, Int.reduceToNat, Nat.reducePow, Int.reduceEq, Int.reduceNe, Int.reduceLT, Int.reduceLE, Nat.reduceAdd, Nat.reduceLeDiff, ↓reduceIte, Nat.reduceLT, Nat.reduceMul, Nat.reduceSub, reduceCtorEq, frzLoc, rowCells, vAppM, bne_self_eq_false, beq_self_eq_true, beq_true, beq_false, I, B, w, ibeq, ibne, bbeq, decide_eq_false_iff_not, decide_not, Bool.not_not, Decidable.not_not, Bool.not_eq_eq_eq_not, gt_iff_lt, ge_iff_le, and_false, false_and, or_self, and_self, vf61_res, vf61_keep, *]))
    | (refine ite_go (fun _ => ?_) (fun _ => ?_) <;> try (simp only [go_sem, Int.reduceToNat, Nat.reducePow, Int.reduceEq, Int.reduceNe, Int.reduceLT, Int.reduceLE, Nat.reduceAdd, Nat.reduceLeDiff, ↓reduceIte, Nat.reduceLT, Nat.reduceMul, Nat.reduceSub, reduceCtorEq, frzLoc, rowCells, vAppM, bne_self_eq_false, beq_self_eq_true, beq_true, beq_false, I, B, w, ibeq, ibne, bbeq, decide_eq_false_iff_not, decide_not, Bool.not_not, Decidable.not_not, Bool.not_eq_eq_eq_not, gt_iff_lt, ge_iff_le, and_false, false_and, or_self, and_self, vf61_res, vf61_keep, *]))))
      | some bb =>
        have hbb : bb = b := by
          unfold Tm.unseal at huu
          simp only at huu
          split at huu
          · cases huu; rfl
          · cases huu
        subst hbb
        rw [huu] at hu
        clear huu hk ht
        obtain ⟨bo, bv, L⟩ := bb
        simp only [unsV, Tm.zero, Tm.ag, Tm.op_mk, Tm.val_mk, Tm.args_mk, openB] at hsh hu ⊢
        by_cases ho : bo = 3
        case neg =>
          simp only [ho, false_and, if_false, openV, Ik.zero, Ik.ag, Ik.cells, List.map_cons, List.map_nil]
          refine CV_run (vf := vf61) rfl rfl ?_
          rw [vf61_start]
          (repeat' (first
    | refine RX_seq ?_
    | refine RX_block ?_
    | ((first | refine RX_reg ?_ | refine RX_cond' ?_ | refine RX_draw0 ?_ | refine RX_draw rfl ?_ | refine RX_skip ?_ | refine RX_exit ?_ | refine RX_ret ?_); try (simp only [go_sem, Int.reduceToNat, Nat.reducePow, Int.reduceEq, Int.reduceNe, Int.reduceLT, Int.reduceLE, Nat.reduceAdd, Nat.reduceLeDiff, ↓reduceIte, Nat.reduceLT, Nat.reduceMul, Nat.reduceSub, reduceCtorEq, frzLoc, rowCells, vAppM, bne_self_eq_false, beq_self_eq_true, beq_true, beq_false, I, B, w, ibeq, ibne, bbeq, decide_eq_false_iff_not, decide_not, Bool.not_not, Decidable.not_not, Bool.not_eq_eq_eq_not, gt_iff_lt, ge_iff_le, and_false, false_and, or_self, and_self, vf61_res, vf61_keep, List.length_map, *]))
    | (refine ite_ngo (fun _ => ?_) (fun _ => ?_) <;> try (simp only [go_sem, Int.reduceToNat, Nat.reducePow, Int.reduceEq, Int.reduceNe, Int.reduceLT, Int.reduceLE, Nat.reduceAdd, Nat.reduceLeDiff, ↓reduceIte, Nat.reduceLT, Nat.reduceMul, Nat.reduceSub, reduceCtorEq, frzLoc, rowCells, vAppM, bne_self_eq_false, beq_self_eq_true, beq_true, beq_false, I, B, w, ibeq, ibne, bbeq, decide_eq_false_iff_not, decide_not, Bool.not_not, Decidable.not_not, Bool.not_eq_eq_eq_not, gt_iff_lt, ge_iff_le, and_false, false_and, or_self, and_self, vf61_res, vf61_keep, List.length_map, *]))
    | (refine ite_go (fun _ => ?_) (fun _ => ?_) <;> try (simp only [go_sem, Int.reduceToNat, Nat.reducePow, Int.reduceEq, Int.reduceNe, Int.reduceLT, Int.reduceLE, Nat.reduceAdd, Nat.reduceLeDiff, ↓reduceIte, Nat.reduceLT, Nat.reduceMul, Nat.reduceSub, reduceCtorEq, frzLoc, rowCells, vAppM, bne_self_eq_false, beq_self_eq_true, beq_true, beq_false, I, B, w, ibeq, ibne, bbeq, decide_eq_false_iff_not, decide_not, Bool.not_not, Decidable.not_not, Bool.not_eq_eq_eq_not, gt_iff_lt, ge_iff_le, and_false, false_and, or_self, and_self, vf61_res, vf61_keep, List.length_map, *]))))
        subst ho
        by_cases hl : L.length = 6
        case neg =>
          have hl2 : ¬ (L.length : Int) = 6 := by omega
          simp only [hl, true_and, false_and, if_false, openV, Ik.zero, Ik.ag, Ik.cells, List.map_cons, List.map_nil]
          refine CV_run (vf := vf61) rfl rfl ?_
          rw [vf61_start]
          (repeat' (first
    | refine RX_seq ?_
    | refine RX_block ?_
    | ((first | refine RX_reg ?_ | refine RX_cond' ?_ | refine RX_draw0 ?_ | refine RX_draw rfl ?_ | refine RX_skip ?_ | refine RX_exit ?_ | refine RX_ret ?_); try (simp only [go_sem, Int.reduceToNat, Nat.reducePow, Int.reduceEq, Int.reduceNe, Int.reduceLT, Int.reduceLE, Nat.reduceAdd, Nat.reduceLeDiff, ↓reduceIte, Nat.reduceLT, Nat.reduceMul, Nat.reduceSub, reduceCtorEq, frzLoc, rowCells, vAppM, bne_self_eq_false, beq_self_eq_true, beq_true, beq_false, I, B, w, ibeq, ibne, bbeq, decide_eq_false_iff_not, decide_not, Bool.not_not, Decidable.not_not, Bool.not_eq_eq_eq_not, gt_iff_lt, ge_iff_le, and_false, false_and, or_self, and_self, vf61_res, vf61_keep, List.length_map, *]))
    | (refine ite_ngo (fun _ => ?_) (fun _ => ?_) <;> try (simp only [go_sem, Int.reduceToNat, Nat.reducePow, Int.reduceEq, Int.reduceNe, Int.reduceLT, Int.reduceLE, Nat.reduceAdd, Nat.reduceLeDiff, ↓reduceIte, Nat.reduceLT, Nat.reduceMul, Nat.reduceSub, reduceCtorEq, frzLoc, rowCells, vAppM, bne_self_eq_false, beq_self_eq_true, beq_true, beq_false, I, B, w, ibeq, ibne, bbeq, decide_eq_false_iff_not, decide_not, Bool.not_not, Decidable.not_not, Bool.not_eq_eq_eq_not, gt_iff_lt, ge_iff_le, and_false, false_and, or_self, and_self, vf61_res, vf61_keep, List.length_map, *]))
    | (refine ite_go (fun _ => ?_) (fun _ => ?_) <;> try (simp only [go_sem, Int.reduceToNat, Nat.reducePow, Int.reduceEq, Int.reduceNe, Int.reduceLT, Int.reduceLE, Nat.reduceAdd, Nat.reduceLeDiff, ↓reduceIte, Nat.reduceLT, Nat.reduceMul, Nat.reduceSub, reduceCtorEq, frzLoc, rowCells, vAppM, bne_self_eq_false, beq_self_eq_true, beq_true, beq_false, I, B, w, ibeq, ibne, bbeq, decide_eq_false_iff_not, decide_not, Bool.not_not, Decidable.not_not, Bool.not_eq_eq_eq_not, gt_iff_lt, ge_iff_le, and_false, false_and, or_self, and_self, vf61_res, vf61_keep, List.length_map, *]))))
        obtain ⟨y0, y1, y2, y3, y4, y5, rfl⟩ := list6 L hl
        clear hl
        have hp := e97 y5 (hb.mem (u := y5) (by simp [Tm.args])).len
        have c0 := e26 [y0, y1, y2, y3, y4] [x0, x1, x2, x3, x4] (by simp) ⟨(hb.mem (u := y0) (by simp [Tm.args])).small, (hb.mem (u := y1) (by simp [Tm.args])).small, (hb.mem (u := y2) (by simp [Tm.args])).small, (hb.mem (u := y3) (by simp [Tm.args])).small, (hb.mem (u := y4) (by simp [Tm.args])).small, trivial⟩
        clear hb
        simp only [List.length_cons, List.length_nil, Nat.zero_add, Nat.reduceAdd, true_and, List.take_succ_cons, List.take_zero, List.getD_cons_succ, List.getD_cons_zero, List.map_cons, List.map_nil, Tm.row_eq, Tm.ag] at hp c0 hu hsh ⊢
        have w0 : IntKind.i64.wrap (0 + 1) = 1 := rfl
        have w1 : IntKind.i64.wrap (1 + 1) = 2 := rfl
        have w2 : IntKind.i64.wrap (2 + 1) = 3 := rfl
        have w3 : IntKind.i64.wrap (3 + 1) = 4 := rfl
        have w4 : IntKind.i64.wrap (4 + 1) = 5 := rfl
        cases d0 : Tm.eqbs [y0, y1, y2, y3, y4] [x0, x1, x2, x3, x4] with
        | false =>
          rw [d0] at c0
          simp only [Bool.false_eq_true, if_false, openV, Ik.zero, Ik.ag, Ik.cells, List.map_cons, List.map_nil]
          refine CV_run (vf := vf61) rfl rfl ?_
          rw [vf61_start]
          (repeat' (first
    | refine RX_seq ?_
    | refine RX_block ?_
    | ((first | refine RX_reg ?_ | refine RX_cond' ?_ | refine RX_draw0 ?_ | refine RX_draw rfl ?_ | refine RX_skip ?_ | refine RX_exit ?_ | refine RX_ret ?_); try (simp only [go_sem, Int.reduceToNat, Nat.reducePow, Int.reduceEq, Int.reduceNe, Int.reduceLT, Int.reduceLE, Nat.reduceAdd, Nat.reduceLeDiff, ↓reduceIte, Nat.reduceLT, Nat.reduceMul, Nat.reduceSub, reduceCtorEq, frzLoc, rowCells, vAppM, bne_self_eq_false, beq_self_eq_true, beq_true, beq_false, I, B, w, ibeq, ibne, bbeq, decide_eq_false_iff_not, decide_not, Bool.not_not, Decidable.not_not, Bool.not_eq_eq_eq_not, gt_iff_lt, ge_iff_le, and_false, false_and, or_self, and_self, vf61_res, vf61_keep, *]))
    | (refine ite_ngo (fun _ => ?_) (fun _ => ?_) <;> try (simp only [go_sem, Int.reduceToNat, Nat.reducePow, Int.reduceEq, Int.reduceNe, Int.reduceLT, Int.reduceLE, Nat.reduceAdd, Nat.reduceLeDiff, ↓reduceIte, Nat.reduceLT, Nat.reduceMul, Nat.reduceSub, reduceCtorEq, frzLoc, rowCells, vAppM, bne_self_eq_false, beq_self_eq_true, beq_true, beq_false, I, B, w, ibeq, ibne, bbeq, decide_eq_false_iff_not, decide_not, Bool.not_not, Decidable.not_not, Bool.not_eq_eq_eq_not, gt_iff_lt, ge_iff_le, and_false, false_and, or_self, and_self, vf61_res, vf61_keep, *]))
    | (refine ite_go (fun _ => ?_) (fun _ => ?_) <;> try (simp only [go_sem, Int.reduceToNat, Nat.reducePow, Int.reduceEq, Int.reduceNe, Int.reduceLT, Int.reduceLE, Nat.reduceAdd, Nat.reduceLeDiff, ↓reduceIte, Nat.reduceLT, Nat.reduceMul, Nat.reduceSub, reduceCtorEq, frzLoc, rowCells, vAppM, bne_self_eq_false, beq_self_eq_true, beq_true, beq_false, I, B, w, ibeq, ibne, bbeq, decide_eq_false_iff_not, decide_not, Bool.not_not, Decidable.not_not, Bool.not_eq_eq_eq_not, gt_iff_lt, ge_iff_le, and_false, false_and, or_self, and_self, vf61_res, vf61_keep, *]))))
        | true =>
        rw [d0] at c0
        simp only [Bool.true_and, if_true]
        cases hps : y5.parts with
        | none =>
          rw [hps] at hp
          simp only [partsV, openV, Ik.zero, Ik.ag, Ik.cells, List.map_cons, List.map_nil] at hp ⊢
          refine CV_run (vf := vf61) rfl rfl ?_
          rw [vf61_start]
          (repeat' (first
    | refine RX_seq ?_
    | refine RX_block ?_
    | ((first | refine RX_reg ?_ | refine RX_cond' ?_ | refine RX_draw0 ?_ | refine RX_draw rfl ?_ | refine RX_skip ?_ | refine RX_exit ?_ | refine RX_ret ?_); try (simp only [go_sem, Int.reduceToNat, Nat.reducePow, Int.reduceEq, Int.reduceNe, Int.reduceLT, Int.reduceLE, Nat.reduceAdd, Nat.reduceLeDiff, ↓reduceIte, Nat.reduceLT, Nat.reduceMul, Nat.reduceSub, reduceCtorEq, frzLoc, rowCells, vAppM, bne_self_eq_false, beq_self_eq_true, beq_true, beq_false, I, B, w, ibeq, ibne, bbeq, decide_eq_false_iff_not, decide_not, Bool.not_not, Decidable.not_not, Bool.not_eq_eq_eq_not, gt_iff_lt, ge_iff_le, and_false, false_and, or_self, and_self, vf61_res, vf61_keep, *]))
    | (refine ite_ngo (fun _ => ?_) (fun _ => ?_) <;> try (simp only [go_sem, Int.reduceToNat, Nat.reducePow, Int.reduceEq, Int.reduceNe, Int.reduceLT, Int.reduceLE, Nat.reduceAdd, Nat.reduceLeDiff, ↓reduceIte, Nat.reduceLT, Nat.reduceMul, Nat.reduceSub, reduceCtorEq, frzLoc, rowCells, vAppM, bne_self_eq_false, beq_self_eq_true, beq_true, beq_false, I, B, w, ibeq, ibne, bbeq, decide_eq_false_iff_not, decide_not, Bool.not_not, Decidable.not_not, Bool.not_eq_eq_eq_not, gt_iff_lt, ge_iff_le, and_false, false_and, or_self, and_self, vf61_res, vf61_keep, *]))
    | (refine ite_go (fun _ => ?_) (fun _ => ?_) <;> try (simp only [go_sem, Int.reduceToNat, Nat.reducePow, Int.reduceEq, Int.reduceNe, Int.reduceLT, Int.reduceLE, Nat.reduceAdd, Nat.reduceLeDiff, ↓reduceIte, Nat.reduceLT, Nat.reduceMul, Nat.reduceSub, reduceCtorEq, frzLoc, rowCells, vAppM, bne_self_eq_false, beq_self_eq_true, beq_true, beq_false, I, B, w, ibeq, ibne, bbeq, decide_eq_false_iff_not, decide_not, Bool.not_not, Decidable.not_not, Bool.not_eq_eq_eq_not, gt_iff_lt, ge_iff_le, and_false, false_and, or_self, and_self, vf61_res, vf61_keep, *]))))
        | some ps =>
          rw [hps] at hp
          simp only [partsV, openV, Ik.zero, Ik.ag, Ik.cells, List.map_cons, List.map_nil] at hp ⊢
          refine CV_run (vf := vf61) rfl rfl ?_
          rw [vf61_start]
          (repeat' (first
    | refine RX_seq ?_
    | refine RX_block ?_
    | ((first | refine RX_reg ?_ | refine RX_cond' ?_ | refine RX_draw0 ?_ | refine RX_draw rfl ?_ | refine RX_skip ?_ | refine RX_exit ?_ | refine RX_ret ?_); try (simp only [go_sem, Int.reduceToNat, Nat.reducePow, Int.reduceEq, Int.reduceNe, Int.reduceLT, Int.reduceLE, Nat.reduceAdd, Nat.reduceLeDiff, ↓reduceIte, Nat.reduceLT, Nat.reduceMul, Nat.reduceSub, reduceCtorEq, frzLoc, rowCells, vAppM, bne_self_eq_false, beq_self_eq_true, beq_true, beq_false, I, B, w, ibeq, ibne, bbeq, decide_eq_false_iff_not, decide_not, Bool.not_not, Decidable.not_not, Bool.not_eq_eq_eq_not, gt_iff_lt, ge_iff_le, and_false, false_and, or_self, and_self, vf61_res, vf61_keep, *]))
    | (refine ite_ngo (fun _ => ?_) (fun _ => ?_) <;> try (simp only [go_sem, Int.reduceToNat, Nat.reducePow, Int.reduceEq, Int.reduceNe, Int.reduceLT, Int.reduceLE, Nat.reduceAdd, Nat.reduceLeDiff, ↓reduceIte, Nat.reduceLT, Nat.reduceMul, Nat.reduceSub, reduceCtorEq, frzLoc, rowCells, vAppM, bne_self_eq_false, beq_self_eq_true, beq_true, beq_false, I, B, w, ibeq, ibne, bbeq, decide_eq_false_iff_not, decide_not, Bool.not_not, Decidable.not_not, Bool.not_eq_eq_eq_not, gt_iff_lt, ge_iff_le, and_false, false_and, or_self, and_self, vf61_res, vf61_keep, *]))
    | (refine ite_go (fun _ => ?_) (fun _ => ?_) <;> try (simp only [go_sem, Int.reduceToNat, Nat.reducePow, Int.reduceEq, Int.reduceNe, Int.reduceLT, Int.reduceLE, Nat.reduceAdd, Nat.reduceLeDiff, ↓reduceIte, Nat.reduceLT, Nat.reduceMul, Nat.reduceSub, reduceCtorEq, frzLoc, rowCells, vAppM, bne_self_eq_false, beq_self_eq_true, beq_true, beq_false, I, B, w, ibeq, ibne, bbeq, decide_eq_false_iff_not, decide_not, Bool.not_not, Decidable.not_not, Bool.not_eq_eq_eq_not, gt_iff_lt, ge_iff_le, and_false, false_and, or_self, and_self, vf61_res, vf61_keep, *]))))
end Go.Proofs.Ytahiikdkgbbmfaa

namespace Go.Proofs.Ytahiikdkgbbmfaa
open Go.VM
/-- the box of the parts that are drawn -/
def paB (l : List Int) (s : Int) (b : Bx) (k : Nat) : Bx × Nat := (if nxV l (bxF l s k).2 2 = 1 then b.swap else (bxF l s k).1.swap, nxA l (bxF l s k).2)
/-- the parts that are drawn -/
def paS (l : List Int) (s : Int) (b : Bx) (k : Nat) : List Tm × Nat := drC (paF l s (paB l s b k).1) ((nxV l (paB l s b k).2 6).toNat + 1) (nxA l (paB l s b k).2)
set_option maxRecDepth 20000 in
set_option maxHeartbeats 8000000 in
theorem e37 {l : List Int} (hB : Bytes l) (g : Gw) (hk0 : g.kids = []) (hs : g.id = 0 ∨ g.id = 1) {n : Nat} (hn : n < 1000) (hn1 : g.rules.length = n + 1) {r : Ru} (hr : g.rules[n]? = some r) {b : Bx} {bs : List Bx} (hb : r.bs = b :: bs) (id k : Nat) : ∀ bl, CtxOk bl id →
    CV VP 37 [.ptr id 0, g.ag] (cx bl id l (k : Nat) []) = some ⟨.d (.sl ((paS l g.id b k).1.map Tm.row)), cx bl id l ((paS l g.id b k).2 : Nat) [], [], 0⟩ := by
  intro bl h
  obtain ⟨gid, gpeer, gloc, grem, grules, ggroups, gnow, gcount, gguard, gvault, gredir, ghalf, gsas, gkids, gtickets⟩ := g
  simp only at hk0 hs hn1 hr ⊢
  subst hk0
  have cN : ∀ (n : Int), 0 < n → n ≤ 256 → ∀ (k : Nat) (own : List (List V)), own.map V.erL = own → own.all (V.ltbL (bl.length + own.length)) = true → CV VP 29 [.ptr id 0, .d (I n)] (cx bl id l (k : Nat) own) = some ⟨.d (I (nxV l k n)), cx bl id l (nxA l k : Nat) own, [], 0⟩ := fun n h1 h2 k own => e29 hB h h1 h2
  have c2 := cN 2 (by decide) (by decide)
  have c6 := cN 6 (by decide) (by decide)
  have cB : ∀ (own : List (List V)), own.map V.erL = own → own.all (V.ltbL (bl.length + own.length)) = true → CV VP 47 [.ptr id 0, .d (I gid)] (cx bl id l (k : Nat) own) = some ⟨(bxF l gid k).1.ag, cx bl id l ((bxF l gid k).2 : Nat) own, [], 0⟩ := fun own => cx_lift ((bxF_ok hB gid (by omega) (by omega) k).2 id) h
  have h51a := e51 (bxF l gid k).1
  have h51b := e51 b
  have hrow : (grules.map Ru.row)[n]? = some [I r.act, .lit (.string r.tm), .sl (b.row :: bs.map Bx.row)] := by rw [List.getElem?_map, hr]; simp [Ru.row, hb]
  have hwn : IntKind.i64.wrap (((n + 1 : Nat) : Int) - 1) = (n : Int) := by rw [w_in (by omega) (by omega)]; omega
  have hps : (0 : Int) < ((n + 1 : Nat) : Int) := by omega
  have hps2 : (0 : Int) < ((bs.length + 1 : Nat) : Int) := by omega
  have hlt : n < n + 1 := by omega
  have r6 := nxV_range hB (k := (paB l gid b k).2) (n := 6) (by decide)
  obtain ⟨x, hx⟩ : ∃ x : Nat, nxV l (paB l gid b k).2 6 = (x : Int) := ⟨_, (Int.toNat_of_nonneg r6.1).symm⟩
  have hx6 : x < 6 := by omega
  have hid := h.lt
  have hb2 : bl.length < bl.length + 2 := by omega
  have hb3 : bl.length + 1 < bl.length + 2 := by omega
  have hid2 : id < bl.length + 2 := by omega
  have e1x : ((x + 1 : Nat) : Int) - 1 = (x : Int) := by omega
  clear cN hr hb hn r6
  have fin := fun gt hgc hgl bx (Q : VExit → St → Prop) kk st hat hQ => L37 hB gid hs gt hgc hgl bx id h (Q := Q) (x + 1) kk [] .nil [] 0 (by omega) (by simp; omega) (.inl ⟨rfl, rfl, rfl⟩) st hat hQ
  simp only [paS, hx, Int.toNat_natCast]
  rw [paB] at hx
  simp only at hx
  unfold paB
  refine CV_run (vf := vf37) rfl rfl ?_
  rw [vf37_start]
  simp only [Gw.ag, Gw.cells, List.map_cons, List.map_nil]
  rw [e1x] at fin
  by_cases h2 : nxV l (bxF l gid k).2 2 = 1
  · simp only [h2, if_true]
    (repeat (first
    | refine RX_seq ?_
    | refine RX_block ?_
    | ((first | refine RX_reg ?_ | refine RX_cond' ?_ | refine RX_draw0 ?_ | refine RX_draw rfl ?_ | refine RX_skip ?_ | refine RX_exit ?_ | refine RX_ret ?_); try (simp only [go_sem, Int.reduceToNat, Nat.reducePow, Int.reduceEq, Int.reduceNe, Int.reduceLT, Int.reduceLE, Nat.reduceAdd, Nat.reduceLeDiff, ↓reduceIte, Nat.reduceLT, Nat.reduceMul, Nat.reduceSub, reduceCtorEq, frzLoc, rowCells, vAppM, beq_iff_eq, bne_iff_ne, bne_self_eq_false, beq_self_eq_true, beq_true, beq_false, I, B, w, vf37_res, vf37_keep, cx_len, cx_app, cx_own0, cx_own, cx_setOwn0, cx_setOwn, cx_take, cx_takeN, Nat.add_right_cancel_iff, Nat.lt_irrefl, cx_nlt, Nat.not_lt_zero, cx_get' h, cx_setId' h, cx_er h, cx_all0 h, cx_all h, CtxOk.lt h, c2, c6, cB, h51a, h51b, hrow, hwn, hps, hps2, hlt, hid, hb2, hb3, hid2, hn1, hx, h2, ibeq, gt_iff_lt, List.length_map]))))
    refine RX_loopN (n := bl.length + 2) (by simp [cx_len]) ?_
    refine fin _ rfl (fun n => rfl) b.swap _ _ _ ⟨rfl, by first | rfl | (simp only [cx_takeN, List.take_succ_cons, List.take_zero]; done) | (simp only [cx_takeN, List.take_succ_cons, List.take_zero]; rfl), rfl, rfl, by simp [cx_len], rfl⟩ ?_
    rintro v live gn st hv hat
    rw [List.nil_append] at hv
    have hm1 : ¬ (0 : Int) ≤ -1 := by decide
    rcases hv with ⟨rfl, rfl, hr0⟩ | ⟨g, rfl, rfl⟩
    · refine RL_at hat (by (simp only [go_sem, Int.reduceToNat, Nat.reducePow, Int.reduceEq, Int.reduceNe, Int.reduceLT, Int.reduceLE, Nat.reduceAdd, Nat.reduceLeDiff, ↓reduceIte, Nat.reduceLT, Nat.reduceMul, Nat.reduceSub, reduceCtorEq, frzLoc, rowCells, vAppM, beq_iff_eq, bne_iff_ne, bne_self_eq_false, beq_self_eq_true, beq_true, beq_false, I, B, w, cx_len, cx_app, cx_own0, cx_own, cx_setOwn0, cx_setOwn, cx_take, cx_takeN, Nat.add_right_cancel_iff, Nat.lt_irrefl, cx_nlt, Nat.not_lt_zero, cx_get' h, cx_setId' h, cx_er h, cx_all0 h, cx_all h, CtxOk.lt h, hb2, hb3, hid2])) (by (simp only [go_sem, Int.reduceToNat, Nat.reducePow, Int.reduceEq, Int.reduceNe, Int.reduceLT, Int.reduceLE, Nat.reduceAdd, Nat.reduceLeDiff, ↓reduceIte, Nat.reduceLT, Nat.reduceMul, Nat.reduceSub, reduceCtorEq, frzLoc, rowCells, vAppM, beq_iff_eq, bne_iff_ne, bne_self_eq_false, beq_self_eq_true, beq_true, beq_false, I, B, w, cx_len, cx_app, cx_own0, cx_own, cx_setOwn0, cx_setOwn, cx_take, cx_takeN, Nat.add_right_cancel_iff, Nat.lt_irrefl, cx_nlt, Nat.not_lt_zero, cx_get' h, cx_setId' h, cx_er h, cx_all0 h, cx_all h, CtxOk.lt h, hb2, hb3, hid2])) (vf37L0_go ?_)
      (repeat (first
    | refine RX_seq ?_
    | refine RX_block ?_
    | ((first | refine RX_reg ?_ | refine RX_cond' ?_ | refine RX_draw0 ?_ | refine RX_draw rfl ?_ | refine RX_skip ?_ | refine RX_exit ?_ | refine RX_ret ?_); try (simp only [go_sem, Int.reduceToNat, Nat.reducePow, Int.reduceEq, Int.reduceNe, Int.reduceLT, Int.reduceLE, Nat.reduceAdd, Nat.reduceLeDiff, ↓reduceIte, Nat.reduceLT, Nat.reduceMul, Nat.reduceSub, reduceCtorEq, frzLoc, rowCells, vAppM, beq_iff_eq, bne_iff_ne, bne_self_eq_false, beq_self_eq_true, beq_true, beq_false, I, B, w, vf37_res, vf37_keep, cx_len, cx_app, cx_own0, cx_own, cx_setOwn0, cx_setOwn, cx_take, cx_takeN, Nat.add_right_cancel_iff, Nat.lt_irrefl, cx_nlt, Nat.not_lt_zero, cx_get' h, cx_setId' h, cx_er h, cx_all0 h, cx_all h, CtxOk.lt h, hid, hb2, hb3, hid2, hm1, ge_iff_le, hr0]))))
    · refine RL_at hat (by (simp only [go_sem, Int.reduceToNat, Nat.reducePow, Int.reduceEq, Int.reduceNe, Int.reduceLT, Int.reduceLE, Nat.reduceAdd, Nat.reduceLeDiff, ↓reduceIte, Nat.reduceLT, Nat.reduceMul, Nat.reduceSub, reduceCtorEq, frzLoc, rowCells, vAppM, beq_iff_eq, bne_iff_ne, bne_self_eq_false, beq_self_eq_true, beq_true, beq_false, I, B, w, cx_len, cx_app, cx_own0, cx_own, cx_setOwn0, cx_setOwn, cx_take, cx_takeN, Nat.add_right_cancel_iff, Nat.lt_irrefl, cx_nlt, Nat.not_lt_zero, cx_get' h, cx_setId' h, cx_er h, cx_all0 h, cx_all h, CtxOk.lt h, hb2, hb3, hid2])) (by (simp only [go_sem, Int.reduceToNat, Nat.reducePow, Int.reduceEq, Int.reduceNe, Int.reduceLT, Int.reduceLE, Nat.reduceAdd, Nat.reduceLeDiff, ↓reduceIte, Nat.reduceLT, Nat.reduceMul, Nat.reduceSub, reduceCtorEq, frzLoc, rowCells, vAppM, beq_iff_eq, bne_iff_ne, bne_self_eq_false, beq_self_eq_true, beq_true, beq_false, I, B, w, cx_len, cx_app, cx_own0, cx_own, cx_setOwn0, cx_setOwn, cx_take, cx_takeN, Nat.add_right_cancel_iff, Nat.lt_irrefl, cx_nlt, Nat.not_lt_zero, cx_get' h, cx_setId' h, cx_er h, cx_all0 h, cx_all h, CtxOk.lt h, hb2, hb3, hid2])) (vf37L0_go ?_)
      (repeat (first
    | refine RX_seq ?_
    | refine RX_block ?_
    | ((first | refine RX_reg ?_ | refine RX_cond' ?_ | refine RX_draw0 ?_ | refine RX_draw rfl ?_ | refine RX_skip ?_ | refine RX_exit ?_ | refine RX_ret ?_); try (simp only [go_sem, Int.reduceToNat, Nat.reducePow, Int.reduceEq, Int.reduceNe, Int.reduceLT, Int.reduceLE, Nat.reduceAdd, Nat.reduceLeDiff, ↓reduceIte, Nat.reduceLT, Nat.reduceMul, Nat.reduceSub, reduceCtorEq, frzLoc, rowCells, vAppM, beq_iff_eq, bne_iff_ne, bne_self_eq_false, beq_self_eq_true, beq_true, beq_false, I, B, w, vf37_res, vf37_keep, cx_len, cx_app, cx_own0, cx_own, cx_setOwn0, cx_setOwn, cx_take, cx_takeN, Nat.add_right_cancel_iff, Nat.lt_irrefl, cx_nlt, Nat.not_lt_zero, cx_get' h, cx_setId' h, cx_er h, cx_all0 h, cx_all h, CtxOk.lt h, hid, hb2, hb3, hid2, hm1, ge_iff_le]))))
  · simp only [h2, if_false]
    (repeat (first
    | refine RX_seq ?_
    | refine RX_block ?_
    | ((first | refine RX_reg ?_ | refine RX_cond' ?_ | refine RX_draw0 ?_ | refine RX_draw rfl ?_ | refine RX_skip ?_ | refine RX_exit ?_ | refine RX_ret ?_); try (simp only [go_sem, Int.reduceToNat, Nat.reducePow, Int.reduceEq, Int.reduceNe, Int.reduceLT, Int.reduceLE, Nat.reduceAdd, Nat.reduceLeDiff, ↓reduceIte, Nat.reduceLT, Nat.reduceMul, Nat.reduceSub, reduceCtorEq, frzLoc, rowCells, vAppM, beq_iff_eq, bne_iff_ne, bne_self_eq_false, beq_self_eq_true, beq_true, beq_false, I, B, w, vf37_res, vf37_keep, cx_len, cx_app, cx_own0, cx_own, cx_setOwn0, cx_setOwn, cx_take, cx_takeN, Nat.add_right_cancel_iff, Nat.lt_irrefl, cx_nlt, Nat.not_lt_zero, cx_get' h, cx_setId' h, cx_er h, cx_all0 h, cx_all h, CtxOk.lt h, c2, c6, cB, h51a, h51b, hrow, hwn, hps, hps2, hlt, hid, hb2, hb3, hid2, hn1, hx, h2, ibeq, gt_iff_lt, List.length_map]))))
    refine RX_loopN (n := bl.length + 2) (by simp [cx_len]) ?_
    refine fin _ rfl (fun n => rfl) (bxF l gid k).1.swap _ _ _ ⟨rfl, by first | rfl | (simp only [cx_takeN, List.take_succ_cons, List.take_zero]; done) | (simp only [cx_takeN, List.take_succ_cons, List.take_zero]; rfl), rfl, rfl, by simp [cx_len], rfl⟩ ?_
    rintro v live gn st hv hat
    rw [List.nil_append] at hv
    have hm1 : ¬ (0 : Int) ≤ -1 := by decide
    rcases hv with ⟨rfl, rfl, hr0⟩ | ⟨g, rfl, rfl⟩
    · refine RL_at hat (by (simp only [go_sem, Int.reduceToNat, Nat.reducePow, Int.reduceEq, Int.reduceNe, Int.reduceLT, Int.reduceLE, Nat.reduceAdd, Nat.reduceLeDiff, ↓reduceIte, Nat.reduceLT, Nat.reduceMul, Nat.reduceSub, reduceCtorEq, frzLoc, rowCells, vAppM, beq_iff_eq, bne_iff_ne, bne_self_eq_false, beq_self_eq_true, beq_true, beq_false, I, B, w, cx_len, cx_app, cx_own0, cx_own, cx_setOwn0, cx_setOwn, cx_take, cx_takeN, Nat.add_right_cancel_iff, Nat.lt_irrefl, cx_nlt, Nat.not_lt_zero, cx_get' h, cx_setId' h, cx_er h, cx_all0 h, cx_all h, CtxOk.lt h, hb2, hb3, hid2])) (by (simp only [go_sem, Int.reduceToNat, Nat.reducePow, Int.reduceEq, Int.reduceNe, Int.reduceLT, Int.reduceLE, Nat.reduceAdd, Nat.reduceLeDiff, ↓reduceIte, Nat.reduceLT, Nat.reduceMul, Nat.reduceSub, reduceCtorEq, frzLoc, rowCells, vAppM, beq_iff_eq, bne_iff_ne, bne_self_eq_false, beq_self_eq_true, beq_true, beq_false, I, B, w, cx_len, cx_app, cx_own0, cx_own, cx_setOwn0, cx_setOwn, cx_take, cx_takeN, Nat.add_right_cancel_iff, Nat.lt_irrefl, cx_nlt, Nat.not_lt_zero, cx_get' h, cx_setId' h, cx_er h, cx_all0 h, cx_all h, CtxOk.lt h, hb2, hb3, hid2])) (vf37L0_go ?_)
      (repeat (first
    | refine RX_seq ?_
    | refine RX_block ?_
    | ((first | refine RX_reg ?_ | refine RX_cond' ?_ | refine RX_draw0 ?_ | refine RX_draw rfl ?_ | refine RX_skip ?_ | refine RX_exit ?_ | refine RX_ret ?_); try (simp only [go_sem, Int.reduceToNat, Nat.reducePow, Int.reduceEq, Int.reduceNe, Int.reduceLT, Int.reduceLE, Nat.reduceAdd, Nat.reduceLeDiff, ↓reduceIte, Nat.reduceLT, Nat.reduceMul, Nat.reduceSub, reduceCtorEq, frzLoc, rowCells, vAppM, beq_iff_eq, bne_iff_ne, bne_self_eq_false, beq_self_eq_true, beq_true, beq_false, I, B, w, vf37_res, vf37_keep, cx_len, cx_app, cx_own0, cx_own, cx_setOwn0, cx_setOwn, cx_take, cx_takeN, Nat.add_right_cancel_iff, Nat.lt_irrefl, cx_nlt, Nat.not_lt_zero, cx_get' h, cx_setId' h, cx_er h, cx_all0 h, cx_all h, CtxOk.lt h, hid, hb2, hb3, hid2, hm1, ge_iff_le, hr0]))))
    · refine RL_at hat (by (simp only [go_sem, Int.reduceToNat, Nat.reducePow, Int.reduceEq, Int.reduceNe, Int.reduceLT, Int.reduceLE, Nat.reduceAdd, Nat.reduceLeDiff, ↓reduceIte, Nat.reduceLT, Nat.reduceMul, Nat.reduceSub, reduceCtorEq, frzLoc, rowCells, vAppM, beq_iff_eq, bne_iff_ne, bne_self_eq_false, beq_self_eq_true, beq_true, beq_false, I, B, w, cx_len, cx_app, cx_own0, cx_own, cx_setOwn0, cx_setOwn, cx_take, cx_takeN, Nat.add_right_cancel_iff, Nat.lt_irrefl, cx_nlt, Nat.not_lt_zero, cx_get' h, cx_setId' h, cx_er h, cx_all0 h, cx_all h, CtxOk.lt h, hb2, hb3, hid2])) (by (simp only [go_sem, Int.reduceToNat, Nat.reducePow, Int.reduceEq, Int.reduceNe, Int.reduceLT, Int.reduceLE, Nat.reduceAdd, Nat.reduceLeDiff, ↓reduceIte, Nat.reduceLT, Nat.reduceMul, Nat.reduceSub, reduceCtorEq, frzLoc, rowCells, vAppM, beq_iff_eq, bne_iff_ne, bne_self_eq_false, beq_self_eq_true, beq_true, beq_false, I, B, w, cx_len, cx_app, cx_own0, cx_own, cx_setOwn0, cx_setOwn, cx_take, cx_takeN, Nat.add_right_cancel_iff, Nat.lt_irrefl, cx_nlt, Nat.not_lt_zero, cx_get' h, cx_setId' h, cx_er h, cx_all0 h, cx_all h, CtxOk.lt h, hb2, hb3, hid2])) (vf37L0_go ?_)
      (repeat (first
    | refine RX_seq ?_
    | refine RX_block ?_
    | ((first | refine RX_reg ?_ | refine RX_cond' ?_ | refine RX_draw0 ?_ | refine RX_draw rfl ?_ | refine RX_skip ?_ | refine RX_exit ?_ | refine RX_ret ?_); try (simp only [go_sem, Int.reduceToNat, Nat.reducePow, Int.reduceEq, Int.reduceNe, Int.reduceLT, Int.reduceLE, Nat.reduceAdd, Nat.reduceLeDiff, ↓reduceIte, Nat.reduceLT, Nat.reduceMul, Nat.reduceSub, reduceCtorEq, frzLoc, rowCells, vAppM, beq_iff_eq, bne_iff_ne, bne_self_eq_false, beq_self_eq_true, beq_true, beq_false, I, B, w, vf37_res, vf37_keep, cx_len, cx_app, cx_own0, cx_own, cx_setOwn0, cx_setOwn, cx_take, cx_takeN, Nat.add_right_cancel_iff, Nat.lt_irrefl, cx_nlt, Nat.not_lt_zero, cx_get' h, cx_setId' h, cx_er h, cx_all0 h, cx_all h, CtxOk.lt h, hid, hb2, hb3, hid2, hm1, ge_iff_le]))))
end Go.Proofs.Ytahiikdkgbbmfaa

namespace Go.Proofs.Ytahiikdkgbbmfaa
open Go.VM
def Ik.same (a b : Ik) : Bool := decide (a.kind = b.kind) && (decide (a.spiI = b.spiI) && (decide (a.spiR = b.spiR) && (decide (a.reply = b.reply) && (decide (a.init = b.init) && (decide (a.id = b.id) && Tm.eqbs a.parts b.parts)))))
set_option maxHeartbeats 4000000 in
theorem e62 (a b : Ik) (h1 : a.parts.length < 1099511627776) (h2 : Tm.smalls a.parts) : CV VP 62 [a.ag, b.ag] [] = some ⟨.d (B (a.same b)), [], [], 0⟩ := by
  have h26 := e26 a.parts b.parts h1 h2
  obtain ⟨ak, ai, ar, arp, aini, aid, ap⟩ := a
  obtain ⟨bk, bi, br, brp, bini, bid, bp⟩ := b
  simp only [Ik.ag, Ik.cells, Ik.same, List.map_cons, List.map_nil] at h26 ⊢
  clear h1 h2
  generalize Tm.eqbs ap bp = e at *
  refine CV_run (vf := vf62) rfl rfl ?_
  rw [vf62_start]
  (repeat' (first
    | refine RX_seq ?_
    | refine RX_block ?_
    | ((first | refine RX_reg ?_ | refine RX_cond' ?_ | refine RX_draw0 ?_ | refine RX_draw rfl ?_ | refine RX_skip ?_ | refine RX_exit ?_ | refine RX_ret ?_); try (simp only [go_sem, Int.reduceToNat, Nat.reducePow, Int.reduceEq, Int.reduceNe, Int.reduceLT, Int.reduceLE, Nat.reduceAdd, Nat.reduceLeDiff, ↓reduceIte, Nat.reduceLT, Nat.reduceMul, Nat.reduceSub, reduceCtorEq, frzLoc, rowCells, vAppM, bne_self_eq_false, beq_self_eq_true, beq_true, beq_false, I, B, w, ibeq, ibne, bbeq, decide_eq_false_iff_not, decide_not, Bool.not_not, Decidable.not_not, Bool.not_eq_eq_eq_not, gt_iff_lt, ge_iff_le, and_false, false_and, or_self, and_self, vf62_res, vf62_keep, Bool.false_and, Bool.and_false, *]))
    | (refine ite_ngo (fun _ => ?_) (fun _ => ?_) <;> try (simp only [go_sem, Int.reduceToNat, Nat.reducePow, Int.reduceEq, Int.reduceNe, Int.reduceLT, Int.reduceLE, Nat.reduceAdd, Nat.reduceLeDiff, ↓reduceIte, Nat.reduceLT, Nat.reduceMul, Nat.reduceSub, reduceCtorEq, frzLoc, rowCells, vAppM, bne_self_eq_false, beq_self_eq_true, beq_true, beq_false, I, B, w, ibeq, ibne, bbeq, decide_eq_false_iff_not, decide_not, Bool.not_not, Decidable.not_not, Bool.not_eq_eq_eq_not, gt_iff_lt, ge_iff_le, and_false, false_and, or_self, and_self, vf62_res, vf62_keep, Bool.false_and, Bool.and_false, *]))
    | (refine ite_go (fun _ => ?_) (fun _ => ?_) <;> try (simp only [go_sem, Int.reduceToNat, Nat.reducePow, Int.reduceEq, Int.reduceNe, Int.reduceLT, Int.reduceLE, Nat.reduceAdd, Nat.reduceLeDiff, ↓reduceIte, Nat.reduceLT, Nat.reduceMul, Nat.reduceSub, reduceCtorEq, frzLoc, rowCells, vAppM, bne_self_eq_false, beq_self_eq_true, beq_true, beq_false, I, B, w, ibeq, ibne, bbeq, decide_eq_false_iff_not, decide_not, Bool.not_not, Decidable.not_not, Bool.not_eq_eq_eq_not, gt_iff_lt, ge_iff_le, and_false, false_and, or_self, and_self, vf62_res, vf62_keep, Bool.false_and, Bool.and_false, *]))))
end Go.Proofs.Ytahiikdkgbbmfaa

namespace Go.Proofs.Ytahiikdkgbbmfaa
open Go.VM
theorem tames_of : ∀ {ts : List Tm}, (∀ t ∈ ts, t.tame) → Tm.tames ts
  | [], _ => trivial
  | t :: _, h => ⟨h t List.mem_cons_self, tames_of fun u hu => h u (List.mem_cons_of_mem _ hu)⟩
theorem tame_nT (n : Int) : (nT n).tame := ⟨by simp, trivial⟩
theorem tame_leaf (o v : Int) : (Tm.mk o v []).tame := ⟨by simp, trivial⟩
theorem tame_pT (n : Int) {ts : List Tm} (hl : ts.length < 100000) (h : ∀ t ∈ ts, t.tame) : (pT n ts).tame := ⟨by simp only [List.length_cons]; omega, tame_nT n, tames_of h⟩
theorem part_pT (n : Int) (ts : List Tm) : (pT n ts).partB = true := by simp [pT, Tm.partB, nT, Tm.op_mk]
theorem drL_tame {f : Nat → Tm × Nat} (hf : ∀ k, (f k).1.tame) : ∀ n k, Tm.tames (drL f n k).1
  | 0, _ => trivial
  | n + 1, k => ⟨hf k, drL_tame hf n _⟩
theorem drT_tame {l : List Int} (hB : Bytes l) : ∀ d k, (drT l d k).1.tame
  | 0, k => ⟨by simp, trivial⟩
  | d + 1, k => by
    have ih := drT_tame hB d
    rw [drT]
    split
    · exact ⟨by simp, trivial⟩
    split
    · refine ⟨?_, drL_tame ih _ _⟩
      rw [drL_len]
      have := nxV_range hB (k := nxA l k) (n := 4) (by decide)
      omega
    split
    · exact ⟨by simp, ⟨by simp, trivial⟩, trivial⟩
    split
    · exact ⟨by simp, ⟨by simp, trivial⟩, ⟨by simp, trivial⟩, trivial⟩
    split
    · exact ⟨by simp, ih _, trivial⟩
    split
    · exact ⟨by simp, ih _, ih _, trivial⟩
    · exact ⟨by simp, ih _, trivial⟩
theorem paNm_len (x : Int) : (paNm x).data.toList.length ≤ 6 := by
  unfold paNm
  split
  · decide
  · split <;> decide
/-- what the parts that are drawn have in common -/
def Good (ts : List Tm) : Prop := ∀ t ∈ ts, t.partB = true ∧ t.tame
theorem paF_good {l : List Int} (hB : Bytes l) (s : Int) (b : Bx) (k : Nat) : Good (paF l s b k).1 ∧ (paF l s b k).1.length ≤ 2 := by
  have one : ∀ n ts, ts.length < 100000 → (∀ t ∈ ts, Tm.tame t) → Good [pT n ts] := fun n ts h1 h2 t ht => by
    simp only [List.mem_cons, List.not_mem_nil, or_false] at ht; subst ht; exact ⟨part_pT n ts, tame_pT n h1 h2⟩
  have two : ∀ n ts m us, ts.length < 100000 → (∀ t ∈ ts, Tm.tame t) → us.length < 100000 → (∀ t ∈ us, Tm.tame t) → Good [pT n ts, pT m us] := fun n ts m us h1 h2 h3 h4 t ht => by
    simp only [List.mem_cons, List.not_mem_nil, or_false] at ht
    rcases ht with rfl | rfl
    · exact ⟨part_pT n ts, tame_pT n h1 h2⟩
    · exact ⟨part_pT m us, tame_pT m h3 h4⟩
  have nums : ∀ ns : List Int, ∀ t ∈ ns.map nT, Tm.tame t := fun ns t ht => by obtain ⟨n, _, rfl⟩ := List.mem_map.1 ht; exact tame_nT n
  have leaf : ∀ o v, ∀ t ∈ [Tm.mk o v []], Tm.tame t := fun o v t ht => by simp only [List.mem_cons, List.not_mem_nil, or_false] at ht; subst ht; exact tame_leaf o v
  unfold paF
  simp only
  split
  · refine ⟨two _ _ _ _ (by simp) (nums [_]) ?_ ?_, by simp⟩
    · have := paNm_len (nxV l (nxA l (nxA l k)) 4)
      simp only [List.length_append, bqN, byT, List.length_map, List.length_cons, List.length_nil]
      omega
    · intro t ht
      rcases List.mem_append.1 ht with ht | ht
      · exact nums [_, _, _, _, _, _, _, _, _, _, _, _, _, _, _, _, _, _] t ht
      · obtain ⟨c, _, rfl⟩ := List.mem_map.1 ht; exact tame_nT _
  split
  · exact ⟨one _ _ (by simp) (leaf _ _), by simp⟩
  split
  · exact ⟨one _ _ (by simp) (nums [_]), by simp⟩
  split
  · refine ⟨two _ _ _ _ (by simp) ?_ (by simp) (nums [_]), by simp⟩
    intro t ht
    simp only [List.mem_cons, List.not_mem_nil, or_false] at ht
    rcases ht with rfl | rfl
    · exact tame_nT _
    · exact ⟨by simp, tame_leaf _ _, trivial⟩
  split
  · exact ⟨one _ _ (by simp) (nums [_, _]), by simp⟩
  split
  · exact ⟨one _ _ (by simp) (by simp), by simp⟩
  split
  · exact ⟨one _ _ (by simp) (leaf _ _), by simp⟩
  split
  · exact ⟨one _ _ (by simp) (nums [_]), by simp⟩
  · refine ⟨one _ _ ?_ ?_, by simp⟩
    · have := nxV_range hB (k := nxA l (nxA l k)) (n := 2 + 1) (by decide)
      rw [drS, drL_len]; omega
    · intro t ht
      exact Tm.tames_mem (drL_tame (drT_tame hB 1) _ _) ht
theorem drC_good {l : List Int} (hB : Bytes l) (s : Int) (b : Bx) : ∀ n k, Good (drC (paF l s b) n k).1 ∧ (drC (paF l s b) n k).1.length ≤ 2 * n
  | 0, k => ⟨fun t ht => (by cases ht), by simp [drC]⟩
  | n + 1, k => by
    have h1 := paF_good hB s b k
    have h2 := drC_good hB s b n (paF l s b k).2
    rw [drC]
    refine ⟨fun t ht => ?_, by rw [List.length_append]; omega⟩
    rcases List.mem_append.1 ht with ht | ht
    · exact h1.1 t ht
    · exact h2.1 t ht
theorem paS_good {l : List Int} (hB : Bytes l) (s : Int) (b : Bx) (k : Nat) : Good (paS l s b k).1 ∧ (paS l s b k).1.length ≤ 12 := by
  have r := nxV_range hB (k := (paB l s b k).2) (n := 6) (by decide)
  have h := drC_good hB s (paB l s b k).1 ((nxV l (paB l s b k).2 6).toNat + 1) (nxA l (paB l s b k).2)
  exact ⟨h.1, by have := h.2; unfold paS; omega⟩
/-- the message that is drawn -/
def msF (l : List Int) (s : Int) (b : Bx) (k : Nat) : Ik × Nat :=
  let k1 := nxA l k
  let k2 := nxA l k1
  let k3 := nxA l k2
  let k4 := nxA l k3
  let k5 := nxA l k4
  let p := paS l s b (nxA l k5)
  (⟨34 + nxV l k 6, nxV l k1 9, nxV l k2 9, decide (nxV l k3 2 = 1), decide (nxV l k4 2 = 1), nxV l k5 5, p.1⟩, p.2)
set_option maxHeartbeats 8000000 in
theorem e54 {l : List Int} (hB : Bytes l) (g : Gw) (hk0 : g.kids = []) (hs : g.id = 0 ∨ g.id = 1) {n : Nat} (hn : n < 1000) (hn1 : g.rules.length = n + 1) {r : Ru} (hr : g.rules[n]? = some r) {b : Bx} {bs : List Bx} (hb : r.bs = b :: bs) (id k : Nat) : ∀ bl, CtxOk bl id →
    CV VP 54 [.ptr id 0, g.ag] (cx bl id l (k : Nat) []) = some ⟨(msF l g.id b k).1.ag, cx bl id l ((msF l g.id b k).2 : Nat) [], [], 0⟩ := by
  intro bl h
  have cN : ∀ (n : Int), 0 < n → n ≤ 256 → ∀ (k : Nat) (own : List (List V)), own.map V.erL = own → own.all (V.ltbL (bl.length + own.length)) = true → CV VP 29 [.ptr id 0, .d (I n)] (cx bl id l (k : Nat) own) = some ⟨.d (I (nxV l k n)), cx bl id l (nxA l k : Nat) own, [], 0⟩ := fun n h1 h2 k own => e29 hB h h1 h2
  have c6 := cN 6 (by decide) (by decide)
  have c9 := cN 9 (by decide) (by decide)
  have c2 := cN 2 (by decide) (by decide)
  have c5 := cN 5 (by decide) (by decide)
  have c37 : ∀ (k : Nat) (own : List (List V)), own.map V.erL = own → own.all (V.ltbL (bl.length + own.length)) = true → CV VP 37 [.ptr id 0, g.ag] (cx bl id l (k : Nat) own) = some ⟨.d (.sl ((paS l g.id b k).1.map Tm.row)), cx bl id l ((paS l g.id b k).2 : Nat) own, [], 0⟩ := fun k own => cx_lift (fun bl h => e37 hB g hk0 hs hn hn1 hr hb id k bl h) h
  have q := nxV_range hB (k := k) (n := 6) (by decide)
  have m6 : IntKind.i64.wrap (34 + nxV l k 6) = 34 + nxV l k 6 := w_in (by omega) (by omega)
  have hid := h.lt
  clear cN hr hb hn hn1 hs hk0 hB
  obtain ⟨gid, gpeer, gloc, grem, grules, ggroups, gnow, gcount, gguard, gvault, gredir, ghalf, gsas, gkids, gtickets⟩ := g
  simp only [msF, Ik.ag, Ik.cells, Gw.ag, Gw.cells, List.map_cons, List.map_nil] at c37 ⊢
  refine CV_run (vf := vf54) rfl rfl ?_
  rw [vf54_start]
  (repeat (first
    | refine RX_seq ?_
    | refine RX_block ?_
    | ((first | refine RX_reg ?_ | refine RX_cond' ?_ | refine RX_draw0 ?_ | refine RX_draw rfl ?_ | refine RX_skip ?_ | refine RX_exit ?_ | refine RX_ret ?_); try (simp only [go_sem, Int.reduceToNat, Nat.reducePow, Int.reduceEq, Int.reduceNe, Int.reduceLT, Int.reduceLE, Nat.reduceAdd, Nat.reduceLeDiff, ↓reduceIte, Nat.reduceLT, Nat.reduceMul, Nat.reduceSub, reduceCtorEq, frzLoc, rowCells, vAppM, beq_iff_eq, bne_iff_ne, bne_self_eq_false, beq_self_eq_true, beq_true, beq_false, I, B, w, vf54_res, vf54_keep, cx_len, cx_app, cx_own0, cx_own, cx_setOwn0, cx_setOwn, cx_take, cx_takeN, Nat.add_right_cancel_iff, Nat.lt_irrefl, cx_nlt, Nat.not_lt_zero, cx_get' h, cx_setId' h, cx_er h, cx_all0 h, cx_all h, CtxOk.lt h, c6, c9, c2, c5, c37, m6, hid, ibeq]))))
end Go.Proofs.Ytahiikdkgbbmfaa

namespace Go.Proofs.Ytahiikdkgbbmfaa
open Go.VM
theorem rowsT (A : List Tm) : ∀ r ∈ A.map Tm.row, r.length = 3 := by
  intro r hr
  obtain ⟨t, _, rfl⟩ := List.mem_map.1 hr
  rw [Tm.row_eq]; rfl
theorem frzTm (A : List Tm) {n : Nat} (hn : A.length = n) : frzLoc (some (rowCells (A.map Tm.row))) 0 n 3 = .d (.sl (A.map Tm.row)) := by
  have hl := rowCells_len (rowsT A)
  rw [List.length_map] at hl
  subst hn
  simp only [frzLoc]
  rw [if_pos (by omega), List.drop_zero, List.take_of_length_le (by omega), rowCells, toDs_map]
  simp only
  have := chunk_flat (rowsT A)
  rw [List.length_map] at this
  rw [this]
theorem rowCells_cons (a : Tm) (A : List Tm) : rowCells ((a :: A).map Tm.row) = .d (I a.op) :: .d (I a.val) :: .d (.sl (a.args.map Tm.row)) :: rowCells (A.map Tm.row) := by
  simp [rowCells, Tm.row_eq]
theorem set_row : ∀ {A : List Tm} {j : Nat} {t : Tm} (_ : A[j]? = some t) (z : Int),
    List.take (j * 3 + 1) (rowCells (A.map Tm.row)) ++ [.d (I z)] ++ List.drop (j * 3 + 1 + 1) (rowCells (A.map Tm.row)) = rowCells ((A.set j (.mk t.op z t.args)).map Tm.row)
  | [], j, t, h, z => by simp at h
  | a :: A, 0, t, h, z => by
    simp only [List.getElem?_cons_zero, Option.some.injEq] at h
    subst h
    rw [rowCells_cons, List.set_cons_zero, rowCells_cons]
    simp [Tm.op_mk, Tm.val_mk, Tm.args_mk]
  | a :: A, j + 1, t, h, z => by
    have ih := set_row (A := A) (j := j) (t := t) (by simpa using h) z
    have e1 : (j + 1) * 3 + 1 = j * 3 + 1 + 1 + 1 + 1 := by omega
    rw [e1, rowCells_cons, List.set_cons_succ, rowCells_cons]
    simp only [List.take_succ_cons, List.drop_succ_cons, List.cons_append]
    rw [ih]
theorem get_row : ∀ {A : List Tm} {j : Nat} {t : Tm} (_ : A[j]? = some t), List.take 1 (List.drop (j * 3 + 1) (rowCells (A.map Tm.row))) = [.d (I t.val)]
  | [], j, t, h => by simp at h
  | a :: A, 0, t, h => by
    simp only [List.getElem?_cons_zero, Option.some.injEq] at h
    subst h
    rw [rowCells_cons]; simp
  | a :: A, j + 1, t, h => by
    have ih := get_row (A := A) (j := j) (t := t) (by simpa using h)
    have e1 : (j + 1) * 3 + 1 = j * 3 + 1 + 1 + 1 + 1 := by omega
    rw [e1, rowCells_cons]
    simp only [List.drop_succ_cons]
    exact ih
theorem app_rows {A : List Tm} {n : Nat} (hl : A.length = n + 1) (hn : n < 1000000) (st : St) : vAppM st 3 .nil (A.map Tm.row) = some (.loc st.blocks.length 0 (n + 1) 3, { st with blocks := st.blocks ++ [rowCells (A.map Tm.row)] }) := by
  match A, hl with
  | a :: A', hl =>
    unfold vAppM
    rw [if_pos ⟨by rw [List.length_map, hl]; omega, by rw [List.all_eq_true]; intro r hr; simpa using rowsT _ r hr⟩]
    simp only [List.map_cons, List.length_cons, List.length_map] at hl ⊢
    rw [hl]
/-- the head of a message with another number in it -/
theorem wrap_ne {v b : Int} (hv : 0 ≤ v ∧ v ≤ 1000) (hb1 : -9223372036854775808 ≤ b) (hb2 : b ≤ 9223372036854775807) (h0 : b ≠ 0) : w (v + b) ≠ v := by
  intro h0
  have h : (if (true && decide ((v + b) % 18446744073709551616 ≥ 9223372036854775808)) = true then (v + b) % 18446744073709551616 - 18446744073709551616 else (v + b) % 18446744073709551616) = v := h0
  simp only [Bool.true_and, decide_eq_true_eq] at h
  split at h <;> omega
theorem eqb_nT (a b : Int) : (nT a).eqb (nT b) = decide (a = b) := by
  simp only [nT, Tm.eqb, Tm.eqbs, Bool.and_true]
  simp [ibeq]
theorem head_ne (m : Ik) {j : Nat} {y : Tm} (hj : j < 5) (hy : m.head[j]? = some y) {z : Int} (hz : z ≠ y.val) : Tm.eqbs m.head (m.head.set j (.mk y.op z y.args)) = false := by
  obtain ⟨k, i, r, rp, ini, id, ps⟩ := m
  simp only [Ik.head] at hy ⊢
  generalize Ik.flag _ = f at *
  match j, hj with
  | 0, _ => simp at hy; subst hy; simp only [nT, Tm.op_mk, Tm.val_mk, Tm.args_mk] at hz ⊢; simp [Tm.eqbs, Tm.eqb, Ne.symm hz]
  | 1, _ => simp at hy; subst hy; simp only [nT, Tm.op_mk, Tm.val_mk, Tm.args_mk] at hz ⊢; simp [Tm.eqbs, Tm.eqb, Ne.symm hz]
  | 2, _ => simp at hy; subst hy; simp only [nT, Tm.op_mk, Tm.val_mk, Tm.args_mk] at hz ⊢; simp [Tm.eqbs, Tm.eqb, Ne.symm hz]
  | 3, _ => simp at hy; subst hy; simp only [nT, Tm.op_mk, Tm.val_mk, Tm.args_mk] at hz ⊢; simp [Tm.eqbs, Tm.eqb, Ne.symm hz]
  | 4, _ => simp at hy; subst hy; simp only [nT, Tm.op_mk, Tm.val_mk, Tm.args_mk] at hz ⊢; simp [Tm.eqbs, Tm.eqb, Ne.symm hz]
theorem unseal_self (key b : Tm) : Tm.unseal key (.mk 7 0 [key, b]) = some b := by
  simp only [Tm.unseal, Tm.eqb_refl, and_self, if_true]
theorem open_other (key : Tm) (m : Ik) {xs : List Tm} (hx : xs.length = 5) (hne : Tm.eqbs m.head xs = false) : Tm.openK key (.mk 3 0 (xs ++ [.mk 7 0 [key, m.plain]])) = none := by
  unfold Tm.openK
  split
  · rename_i m' _
    have h5 : (Tm.args (.mk 3 0 (xs ++ [.mk 7 0 [key, m.plain]]))).getD 5 Tm.zero = .mk 7 0 [key, m.plain] := by
      simp only [Tm.args_mk]
      rw [List.getD_eq_getElem?_getD, List.getElem?_append_right (by omega), hx]; rfl
    rw [h5, unseal_self]
    simp only [openB, Tm.args_mk]
    refine if_neg ?_
    rintro ⟨_, _, h⟩
    have e1 : m.plain.args.take 5 = m.head := by simp [Ik.plain, Tm.args_mk, Ik.head]
    have e2 : (xs ++ [Tm.mk 7 0 [key, m.plain]]).take 5 = xs := by rw [← hx, List.take_left]
    rw [e1, e2, hne] at h
    cases h
  · rfl
theorem flag_range (m : Ik) : 0 ≤ m.flag ∧ m.flag ≤ 3 := by
  unfold Ik.flag; split <;> split <;> omega
theorem flag_reply (m : Ik) : decide (m.flag % 2 = 1) = m.reply := by
  unfold Ik.flag
  cases m.reply <;> cases m.init <;> rfl
theorem flag_init (m : Ik) : decide (2 ≤ m.flag) = m.init := by
  unfold Ik.flag
  cases m.reply <;> cases m.init <;> rfl
theorem parts_self {ps : List Tm} (h : ps.all Tm.partB = true) : (Tm.mk 3 0 ps).parts = some ps := by
  unfold Tm.parts
  rw [if_pos ⟨rfl, h⟩]; rfl
theorem shape_sealed_self (key : Tm) (m : Ik) : (m.sealed key).shape = some ({ m with parts := [] }, true) := by
  have h1 := flag_range m
  have h2 := flag_reply m
  have h3 := flag_init m
  unfold Tm.shape Ik.sealed Ik.head
  simp only [Tm.op_mk, Tm.args_mk, if_true, List.cons_append, List.nil_append, rdHead]
  rw [if_pos ⟨rfl, rfl, rfl, rfl, rfl, by show ¬ m.flag < 0; omega, by show ¬ 3 < m.flag; omega⟩]
  simp only [shapeR]
  rw [parts_op (by simp [Tm.op])]
  simp only
  rw [if_pos ⟨rfl, rfl⟩]
  have e1 : (nT m.flag).val = m.flag := rfl
  rw [e1, h2, h3]
  rfl
theorem open_self (key : Tm) (m : Ik) (h : m.parts.all Tm.partB = true) : Tm.openK key (m.sealed key) = some m := by
  unfold Tm.openK
  rw [shape_sealed_self]
  simp only
  have h5 : (m.sealed key).args.getD 5 Tm.zero = .mk 7 0 [key, m.plain] := rfl
  rw [h5, unseal_self]
  simp only [openB]
  have e1 : m.plain.args.take 5 = m.head := by simp [Ik.plain, Tm.args_mk, Ik.head]
  have e2 : (m.sealed key).args.take 5 = m.head := by simp [Ik.sealed, Tm.args_mk, Ik.head]
  have e3 : m.plain.args.getD 5 Tm.zero = .mk 3 0 m.parts := rfl
  rw [if_pos ⟨rfl, rfl, by rw [e1, e2, Tm.eqbs_refl]⟩, e3, parts_self h]
end Go.Proofs.Ytahiikdkgbbmfaa

namespace Go.Proofs.Ytahiikdkgbbmfaa
open Go.VM
theorem msF_range {l : List Int} (hB : Bytes l) (s : Int) (b : Bx) (k : Nat) : ∀ t ∈ (msF l s b k).1.head, 0 ≤ t.val ∧ t.val ≤ 1000 := by
  intro t ht
  have f := flag_range (msF l s b k).1
  simp only [Ik.head, List.mem_cons, List.not_mem_nil, or_false] at ht
  have r1 := nxV_range hB (k := k) (n := 6) (by decide)
  have r2 := nxV_range hB (k := nxA l k) (n := 9) (by decide)
  have r3 := nxV_range hB (k := nxA l (nxA l k)) (n := 9) (by decide)
  have r4 := nxV_range hB (k := nxA l (nxA l (nxA l (nxA l (nxA l k))))) (n := 5) (by decide)
  rcases ht with rfl | rfl | rfl | rfl | rfl
  · show 0 ≤ 34 + nxV l k 6 ∧ 34 + nxV l k 6 ≤ 1000; omega
  · show 0 ≤ nxV l (nxA l k) 9 ∧ nxV l (nxA l k) 9 ≤ 1000; omega
  · show 0 ≤ nxV l (nxA l (nxA l k)) 9 ∧ nxV l (nxA l (nxA l k)) 9 ≤ 1000; omega
  · show 0 ≤ (msF l s b k).1.flag ∧ (msF l s b k).1.flag ≤ 1000; omega
  · show 0 ≤ nxV l (nxA l (nxA l (nxA l (nxA l (nxA l k))))) 5 ∧ nxV l (nxA l (nxA l (nxA l (nxA l (nxA l k))))) 5 ≤ 1000; omega
abbrev cdB (q : List Int) (k : Nat) : List V := [.d (.sl (q.map byteRow)), .d (I (k : Nat))]
/-- the gateway of the scenes, and the box of its last rule -/
theorem gaF_a {q : List Int} (hB : Bytes q) (k : Nat) : ∃ n r b bs, n < 1000 ∧ (gaF q k).1.1.kids = [] ∧ (gaF q k).1.1.id = 0 ∧ (gaF q k).1.1.rules.length = n + 1 ∧ (gaF q k).1.1.rules[n]? = some r ∧ r.bs = b :: bs := by
  have h1 := ruS_len hB 0 (nxA q k)
  have h2 := ruS_fine hB (s := 0) (by decide) (by decide) (nxA q k)
  obtain ⟨n, hn⟩ : ∃ n, (ruS q 0 (nxA q k)).1.length = n + 1 := ⟨(ruS q 0 (nxA q k)).1.length - 1, by omega⟩
  obtain ⟨r, hr⟩ : ∃ r, (ruS q 0 (nxA q k)).1[n]? = some r := ⟨_, List.getElem?_eq_getElem (by omega)⟩
  have hp := (h2 r (List.mem_of_getElem? hr)).pos
  obtain ⟨b, bs, hb⟩ : ∃ b bs, r.bs = b :: bs := by
    cases h : r.bs with
    | nil => rw [h] at hp; simp at hp
    | cons b bs => exact ⟨b, bs, rfl⟩
  exact ⟨n, r, b, bs, by omega, rfl, rfl, hn, hr, hb⟩
theorem plain_tame {m : Ik} (h : Good m.parts) (hl : m.parts.length ≤ 12) : m.plain.tame := by
  refine ⟨by simp [Ik.head], tames_of fun t ht => ?_⟩
  rcases List.mem_append.1 ht with ht | ht
  · simp only [Ik.head, List.mem_cons, List.not_mem_nil, or_false] at ht
    rcases ht with rfl | rfl | rfl | rfl | rfl <;> exact tame_nT _
  · simp only [List.mem_cons, List.not_mem_nil, or_false] at ht
    subst ht
    exact ⟨by omega, tames_of fun t ht => (h t ht).2⟩
theorem sealed_tame {m : Ik} {key : Tm} (h : Good m.parts) (hl : m.parts.length ≤ 12) (hk : key.tame) {xs : List Tm} (hx : xs.length = 5) (hxt : ∀ t ∈ xs, t.tame) : (Tm.mk 3 0 (xs ++ [.mk 7 0 [key, m.plain]])).tame := by
  refine ⟨by simp [hx], tames_of fun t ht => ?_⟩
  rcases List.mem_append.1 ht with ht | ht
  · exact hxt t ht
  · simp only [List.mem_cons, List.not_mem_nil, or_false] at ht
    subst ht
    exact ⟨by simp, hk, plain_tame h hl, trivial⟩
set_option maxHeartbeats 8000000 in
theorem e12 {l : List Int} (hB : ByteL l) (at' by' : Int) (ha0 : 0 ≤ at') (hb1 : -9223372036854775808 ≤ by') (hb2 : by' ≤ 9223372036854775807) :
    CV VP 12 [.d (byteD l), .d (.lit (.int .u8 at')), .d (I by')] [] = some ⟨.d (B true), [], [], 0⟩ := by
  have h21 : CV VP 21 [.d (byteD l), .d (I 120)] [] = some ⟨.ptr 0 0, [[.sl 1 ((l.take 120).map byteRow) (.own 0 0), .d (I 0)]], [0], 1⟩ := e21 120 (by decide)
  have hB2 := bytes_take hB 120 (by decide)
  generalize l.take 120 = q at *
  have h36 : CV VP 36 [.ptr 0 0] [[.d (.sl (q.map byteRow)), .d (I 0)]] = some ⟨.tup [(gaF q 0).1.1.ag, (gaF q 0).1.2.ag], [cdB q (gaF q 0).2], [], 0⟩ := e36b hB2 0 0 [[]] CtxOk.base
  obtain ⟨n, r, b, bs, hn, hk0, hid0, hn1, hr, hb⟩ := gaF_a hB2 0
  generalize (gaF q 0).2 = k1 at *
  generalize (gaF q 0).1.2 = gb at *
  generalize (gaF q 0).1.1 = ga at *
  have c54 : ∀ (own : List (List V)), own.map V.erL = own → own.all (V.ltbL (1 + own.length)) = true → CV VP 54 [.ptr 0 0, ga.ag] (cdB q k1 :: own) = some ⟨(msF q ga.id b k1).1.ag, cdB q (msF q ga.id b k1).2 :: own, [], 0⟩ := fun own => cx_lift (fun bl h => e54 hB2 ga hk0 (.inl hid0) hn hn1 hr hb 0 k1 bl h) CtxOk.base
  have hrange := msF_range hB2 ga.id b k1
  have hgood : Good (msF q ga.id b k1).1.parts ∧ (msF q ga.id b k1).1.parts.length ≤ 12 := paS_good hB2 ga.id b _
  generalize msF q ga.id b k1 = M at *
  obtain ⟨m, k2⟩ := M
  simp only at c54 hrange hgood
  have c68 : ∀ (own : List (List V)), own.map V.erL = own → own.all (V.ltbL (1 + own.length)) = true → CV VP 68 [.ptr 0 0] (cdB q k2 :: own) = some ⟨.agg [.d (I 2), .d (I (nmV q k2)), .d (.sl [])], cdB q (nmA q k2) :: own, [], 0⟩ := fun own => cx_lift (fun bl h => e68b hB2 0 k2 bl h) CtxOk.base
  have h67 := e67 m (nmT q k2) (by omega)
  obtain ⟨A, hA⟩ : ∃ A, A = m.head ++ [Tm.mk 7 0 [nmT q k2, m.plain]] := ⟨_, rfl⟩
  have hAl : A.length = 6 := by rw [hA]; rfl
  have hj0 := Int.tmod_nonneg 5 ha0
  have hj1 := Int.tmod_lt_of_pos at' (b := 5) (by decide)
  obtain ⟨j, hj⟩ : ∃ j : Nat, at'.tmod 5 = (j : Int) := ⟨_, (Int.toNat_of_nonneg hj0).symm⟩
  have hj5 : j < 5 := by omega
  have hj6 : j < 6 := by omega
  have hj6i : (j : Int) < 6 := by omega
  have h50 : ¬ (5 : Int) = 0 := by decide
  obtain ⟨y, hy⟩ : ∃ y, m.head[j]? = some y := ⟨_, List.getElem?_eq_getElem (by simpa [Ik.head] using hj5)⟩
  have hyA : A[j]? = some y := by rw [hA, List.getElem?_append_left (by simpa [Ik.head] using hj5), hy]
  have hyr := hrange y (List.mem_of_getElem? hy)
  have hst := set_row hyA (w (y.val + by'))
  have hld := get_row hyA
  obtain ⟨A2, hA2⟩ : ∃ A2, A2 = A.set j (.mk y.op (w (y.val + by')) y.args) := ⟨_, rfl⟩
  have hA2l : A2.length = 6 := by rw [hA2]; simpa using hAl
  have hA2x : A2 = m.head.set j (.mk y.op (w (y.val + by')) y.args) ++ [Tm.mk 7 0 [nmT q k2, m.plain]] := by
    rw [hA2, hA, List.set_append_left _ _ (by simpa [Ik.head] using hj5)]
  have hh5 : (m.head.set j (.mk y.op (w (y.val + by')) y.args)).length = 5 := by simp [Ik.head]
  have hnum : ∀ t ∈ m.head, Tm.tame t := fun t ht => by
    simp only [Ik.head, List.mem_cons, List.not_mem_nil, or_false] at ht
    rcases ht with rfl | rfl | rfl | rfl | rfl <;> exact tame_nT _
  have ht2 : (Tm.mk 3 0 A2).tame := by
    rw [hA2x]
    refine sealed_tame hgood.1 hgood.2 (tame_leaf _ _) hh5 fun t ht => ?_
    rcases List.mem_or_eq_of_mem_set ht with ht | rfl
    · exact hnum t ht
    · have := hnum y (List.mem_of_getElem? hy)
      obtain ⟨o, v, a⟩ := y
      exact this
  have h60 := e60 (nmT q k2) (.mk 3 0 A2) ht2
  have hopen : Tm.openK (nmT q k2) (.mk 3 0 A2) = if by' = 0 then some m else none := by
    by_cases hby : by' = 0
    · rw [if_pos hby]
      have : A2 = m.head ++ [Tm.mk 7 0 [nmT q k2, m.plain]] := by
        rw [hA2x, hby, Int.add_zero]
        have e : w y.val = y.val := w_in (by omega) (by omega)
        rw [e]
        obtain ⟨o, v, a⟩ := y
        simp only [Tm.op_mk, Tm.val_mk, Tm.args_mk]
        congr 1
        obtain ⟨h1, h2⟩ := List.getElem?_eq_some_iff.1 hy
        rw [← h2, List.set_getElem_self]
      rw [this]
      exact open_self _ m (by rw [List.all_eq_true]; exact fun t ht => (hgood.1 t ht).1)
    · rw [if_neg hby, hA2x]
      exact open_other _ m hh5 (head_ne m hj5 hy (wrap_ne hyr hb1 hb2 hby))
  rw [← hA2] at hst
  have hfr := frzTm A2 hA2l
  have happ := fun st => app_rows (A := A) hAl (by decide) st
  have hRC : (rowCells (A.map Tm.row)).length = 18 := by rw [rowCells_len (rowsT A)]; simp [hAl]
  have hRC2 : (rowCells (A2.map Tm.row)).length = 18 := by rw [rowCells_len (rowsT A2)]; simp [hA2l]
  have hRe : ∀ A : List Tm, V.erL (rowCells (A.map Tm.row)) = rowCells (A.map Tm.row) := fun A => erL_d _
  have hRt : ∀ n (A : List Tm), V.ltbL n (rowCells (A.map Tm.row)) = true := fun n A => ltbL_d n _
  have hj18 : j * 3 + 1 + 1 ≤ 18 := by omega
  have hsl : m.sealed (nmT q k2) = .mk 3 0 A := by rw [hA]; rfl
  rw [hsl] at h67
  clear hA hA2 hA2x hrange hgood hnum ht2 hy hyA hB2 hr hb hn hn1 hk0 hid0 hh5 hj0 hj1 hyr hsl
  obtain ⟨gid, gpeer, gloc, grem, grules, ggroups, gnow, gcount, gguard, gvault, gredir, ghalf, gsas, gkids, gtickets⟩ := ga
  obtain ⟨hid', hpeer, hloc, hrem, hrules, hgroups, hnow, hcount, hguard, hvault, hredir, hhalf, hsas, hkids, htickets⟩ := gb
  rw [hopen] at h60
  by_cases hby : by' = 0
  · subst hby
    simp only [if_true, openV] at h60
    obtain ⟨mk, ms, mr, mrep, mini, mid, mps⟩ := m
    simp only [Gw.ag, Gw.cells, Ik.ag, Ik.cells, List.map_cons, List.map_nil, Tm.ag, nmT, Tm.op_mk, Tm.val_mk, Tm.args_mk] at h36 c54 h67 h60
    refine CV_run (vf := vf12) rfl rfl ?_
    rw [vf12_start]
    (repeat (first
    | refine RX_seq ?_
    | refine RX_block ?_
    | ((first | refine RX_reg ?_ | refine RX_cond' ?_ | refine RX_draw0 ?_ | refine RX_draw rfl ?_ | refine RX_skip ?_ | refine RX_exit ?_ | refine RX_ret ?_); try (simp only [go_sem, Int.reduceToNat, Nat.reducePow, Int.reduceEq, Int.reduceNe, Int.reduceLT, Int.reduceLE, Nat.reduceAdd, Nat.reduceLeDiff, ↓reduceIte, Nat.reduceLT, Nat.reduceMul, Nat.reduceSub, reduceCtorEq, beq_iff_eq, bne_iff_ne, bne_self_eq_false, beq_self_eq_true, beq_true, beq_false, I, B, w, vf12_res, vf12_keep, e13, h21, h36, c54, c68, h67, hAl, List.length_map, happ, hj, hj6, hj6i, h50, hRC, hRC2, hRe, hRt, hj18, hst, hld, hfr, h60, ibeq]))))
  · simp only [hby, if_false, openV] at h60
    obtain ⟨mk, ms, mr, mrep, mini, mid, mps⟩ := m
    simp only [Gw.ag, Gw.cells, Ik.ag, Ik.cells, Ik.zero, List.map_cons, List.map_nil, Tm.ag, nmT, Tm.op_mk, Tm.val_mk, Tm.args_mk] at h36 c54 h67 h60
    refine CV_run (vf := vf12) rfl rfl ?_
    rw [vf12_start]
    (repeat (first
    | refine RX_seq ?_
    | refine RX_block ?_
    | ((first | refine RX_reg ?_ | refine RX_cond' ?_ | refine RX_draw0 ?_ | refine RX_draw rfl ?_ | refine RX_skip ?_ | refine RX_exit ?_ | refine RX_ret ?_); try (simp only [go_sem, Int.reduceToNat, Nat.reducePow, Int.reduceEq, Int.reduceNe, Int.reduceLT, Int.reduceLE, Nat.reduceAdd, Nat.reduceLeDiff, ↓reduceIte, Nat.reduceLT, Nat.reduceMul, Nat.reduceSub, reduceCtorEq, beq_iff_eq, bne_iff_ne, bne_self_eq_false, beq_self_eq_true, beq_true, beq_false, I, B, w, vf12_res, vf12_keep, e13, h21, h36, c54, c68, h67, hAl, List.length_map, happ, hj, hj6, hj6i, h50, hRC, hRC2, hRe, hRt, hj18, hst, hld, hfr, h60, ibeq, hby]))))
end Go.Proofs.Ytahiikdkgbbmfaa

namespace Go.Proofs.Ytahiikdkgbbmfaa
open Go.VM
theorem shape_plain (m : Ik) (h : m.parts.all Tm.partB = true) : m.plain.shape = some (m, false) := by
  have h1 := flag_range m
  have h2 := flag_reply m
  have h3 := flag_init m
  unfold Tm.shape Ik.plain Ik.head
  simp only [Tm.op_mk, Tm.args_mk, if_true, List.cons_append, List.nil_append, rdHead]
  rw [if_pos ⟨rfl, rfl, rfl, rfl, rfl, by show ¬ m.flag < 0; omega, by show ¬ 3 < m.flag; omega⟩]
  simp only [shapeR]
  rw [parts_self h]
  have e1 : (nT m.flag).val = m.flag := rfl
  rw [e1, h2, h3]
  rfl
theorem open_key (key other : Tm) (m : Ik) (h : m.parts.all Tm.partB = true) : Tm.openK other (m.sealed key) = if key.eqb other = true then some m else none := by
  unfold Tm.openK
  rw [shape_sealed_self]
  simp only
  have h5 : (m.sealed key).args.getD 5 Tm.zero = .mk 7 0 [key, m.plain] := rfl
  rw [h5]
  simp only [Tm.unseal, true_and]
  by_cases hk : key.eqb other = true
  · rw [if_pos hk, if_pos hk]
    simp only [openB]
    have e1 : m.plain.args.take 5 = m.head := by simp [Ik.plain, Tm.args_mk, Ik.head]
    have e2 : (m.sealed key).args.take 5 = m.head := by simp [Ik.sealed, Tm.args_mk, Ik.head]
    have e3 : m.plain.args.getD 5 Tm.zero = .mk 3 0 m.parts := rfl
    rw [if_pos ⟨rfl, rfl, by rw [e1, e2, Tm.eqbs_refl]⟩, e3, parts_self h]
  · rw [if_neg hk, if_neg hk]
    rfl
theorem same_refl (m : Ik) : m.same m = true := by
  unfold Ik.same; rw [Tm.eqbs_refl]; simp
set_option maxHeartbeats 8000000 in
theorem e11 {l : List Int} (hB : ByteL l) : CV VP 11 [.d (byteD l)] [] = some ⟨.d (B true), [], [], 0⟩ := by
  have h21 : CV VP 21 [.d (byteD l), .d (I 200)] [] = some ⟨.ptr 0 0, [[.sl 1 ((l.take 200).map byteRow) (.own 0 0), .d (I 0)]], [0], 1⟩ := e21 200 (by decide)
  have hB2 := bytes_take hB 200 (by decide)
  generalize l.take 200 = q at *
  have h36 : CV VP 36 [.ptr 0 0] [[.d (.sl (q.map byteRow)), .d (I 0)]] = some ⟨.tup [(gaF q 0).1.1.ag, (gaF q 0).1.2.ag], [cdB q (gaF q 0).2], [], 0⟩ := e36b hB2 0 0 [[]] CtxOk.base
  obtain ⟨n, r, b, bs, hn, hk0, hid0, hn1, hr, hb⟩ := gaF_a hB2 0
  generalize (gaF q 0).2 = k1 at *
  generalize (gaF q 0).1.2 = gb at *
  generalize (gaF q 0).1.1 = ga at *
  have c54 : ∀ (own : List (List V)), own.map V.erL = own → own.all (V.ltbL (1 + own.length)) = true → CV VP 54 [.ptr 0 0, ga.ag] (cdB q k1 :: own) = some ⟨(msF q ga.id b k1).1.ag, cdB q (msF q ga.id b k1).2 :: own, [], 0⟩ := fun own => cx_lift (fun bl h => e54 hB2 ga hk0 (.inl hid0) hn hn1 hr hb 0 k1 bl h) CtxOk.base
  have hgood : Good (msF q ga.id b k1).1.parts ∧ (msF q ga.id b k1).1.parts.length ≤ 12 := paS_good hB2 ga.id b _
  generalize msF q ga.id b k1 = M at *
  obtain ⟨m, k2⟩ := M
  simp only at c54 hgood
  have c32a : ∀ (own : List (List V)), own.map V.erL = own → own.all (V.ltbL (1 + own.length)) = true → CV VP 32 [.ptr 0 0, .d (I 2)] (cdB q k2 :: own) = some ⟨(drT q 1 k2).1.ag, cdB q (drT q 1 k2).2 :: own, [], 0⟩ := fun own => cx_lift (fun bl h => e32b hB2 1 (by decide) 0 k2 bl h) CtxOk.base
  have hkt := drT_tame hB2 1 k2
  generalize drT q 1 k2 = K at *
  obtain ⟨key, k3⟩ := K
  simp only at c32a hkt
  have c32b : ∀ (own : List (List V)), own.map V.erL = own → own.all (V.ltbL (1 + own.length)) = true → CV VP 32 [.ptr 0 0, .d (I 2)] (cdB q k3 :: own) = some ⟨(drT q 1 k3).1.ag, cdB q (drT q 1 k3).2 :: own, [], 0⟩ := fun own => cx_lift (fun bl h => e32b hB2 1 (by decide) 0 k3 bl h) CtxOk.base
  generalize drT q 1 k3 = K at *
  obtain ⟨other, k4⟩ := K
  simp only at c32b
  have hall : m.parts.all Tm.partB = true := by rw [List.all_eq_true]; exact fun t ht => (hgood.1 t ht).1
  have h66 := e66 m (by omega)
  have h67 := e67 m key (by omega)
  have h56 := e56 m (by omega)
  have h55 := e55 m key (by omega)
  have hpt := plain_tame hgood.1 hgood.2
  have hst : (m.sealed key).tame := sealed_tame hgood.1 hgood.2 hkt (xs := m.head) rfl fun t ht => by
    simp only [Ik.head, List.mem_cons, List.not_mem_nil, or_false] at ht
    rcases ht with rfl | rfl | rfl | rfl | rfl <;> exact tame_nT _
  have h58 := e58 m.plain (fun u hu => (hpt.mem hu).len)
  have h60a := e60 key (m.sealed key) hst
  have h60b := e60 other (m.sealed key) hst
  rw [shape_plain m hall] at h58
  rw [open_self key m hall] at h60a
  rw [open_key key other m hall] at h60b
  have h19a := e19 _ m.plain m.plain (Nat.lt_succ_self _) hpt.small
  have h19b := e19 _ (m.sealed key) (m.sealed key) (Nat.lt_succ_self _) hst.small
  have h19c := e19 _ key other (Nat.lt_succ_self _) hkt.small
  rw [Tm.eqb_refl] at h19a h19b
  have h62 := e62 m m (by omega) (tames_of fun t ht => (hgood.1 t ht).2).smalls
  rw [same_refl] at h62
  clear hall hgood hpt hst hkt hB2 hr hb hn hn1 hk0 hid0
  generalize m.plain = P at *
  generalize m.sealed key = S at *
  obtain ⟨gid, gpeer, gloc, grem, grules, ggroups, gnow, gcount, gguard, gvault, gredir, ghalf, gsas, gkids, gtickets⟩ := ga
  obtain ⟨hid', hpeer, hloc, hrem, hrules, hgroups, hnow, hcount, hguard, hvault, hredir, hhalf, hsas, hkids, htickets⟩ := gb
  obtain ⟨mk, ms, mr, mrep, mini, mid, mps⟩ := m
  obtain ⟨po, pv, pa⟩ := P
  obtain ⟨so, sv, sa⟩ := S
  cases hk : key.eqb other
  all_goals
    rw [hk] at h60b h19c
    obtain ⟨ko, kv, ka⟩ := key
    obtain ⟨oo, ov, oa⟩ := other
    simp only [if_true, if_false, Bool.false_eq_true, openV, shapeV, Gw.ag, Gw.cells, Ik.ag, Ik.cells, Ik.zero, List.map_cons, List.map_nil, Tm.ag, Tm.row_mk, Tm.op_mk, Tm.val_mk, Tm.args_mk] at h36 c54 c32a c32b h66 h67 h56 h55 h58 h60a h60b h19a h19b h19c h62
    refine CV_run (vf := vf11) rfl rfl ?_
    rw [vf11_start]
    (repeat (first
    | refine RX_seq ?_
    | refine RX_block ?_
    | ((first | refine RX_reg ?_ | refine RX_cond' ?_ | refine RX_draw0 ?_ | refine RX_draw rfl ?_ | refine RX_skip ?_ | refine RX_exit ?_ | refine RX_ret ?_); try (simp only [go_sem, Int.reduceToNat, Nat.reducePow, Int.reduceEq, Int.reduceNe, Int.reduceLT, Int.reduceLE, Nat.reduceAdd, Nat.reduceLeDiff, ↓reduceIte, Nat.reduceLT, Nat.reduceMul, Nat.reduceSub, reduceCtorEq, frzLoc, rowCells, vAppM, beq_iff_eq, bne_iff_ne, bne_self_eq_false, beq_self_eq_true, beq_true, beq_false, I, B, w, vf11_res, vf11_keep, e13, h21, h36, c54, c32a, c32b, h66, h67, h56, h55, h58, h60a, h60b, h19a, h19b, h19c, h62]))))
end Go.Proofs.Ytahiikdkgbbmfaa
