/- Reading boxes on the machine; the law SessionBoxes answers true. Conditions: none. -/
import Derived.Test.YtjhfakhmflemmaaVd
import Derived.Test.YtjhfakhmflemmaaSby
set_option linter.unusedSimpArgs false
namespace Go.Proofs.Ytjhfakhmflemmaa
open Go.VM
/-- where the cursor stands behind some reads -/
def curI (l : List Tm) : Nat → Nat × Bool
  | 0 => (0, false)
  | k + 1 => curS l (curI l k)
theorem rbOk_op {l : List Tm} (h : rbOk l) {k : Nat} (hk : k < l.length) : (l.getD k Tm.zero).op = 1 := by
  rw [List.getD_eq_getElem?_getD, List.getElem?_eq_getElem hk]
  exact h.2.2.1 _ (List.getElem_mem hk)
theorem curI_ok (l : List Tm) : ∀ k, k ≤ 18 → ((curI l k).2 = true ∧ ¬ rbOk l) ∨ (curI l k = (k, false) ∧ k ≤ l.length ∧ ∀ j, j < k → (l.getD j Tm.zero).op = 1)
  | 0, _ => .inr ⟨rfl, Nat.zero_le _, fun j hj => absurd hj (Nat.not_lt_zero _)⟩
  | k + 1, hk => by
    rcases curI_ok l k (by omega) with ⟨h1, h2⟩ | ⟨h1, h2, h3⟩
    · left
      refine ⟨?_, h2⟩
      rw [curI, curS, if_pos h1]; exact h1
    · rw [curI, h1, curS]
      simp only [Bool.false_eq_true, if_false]
      by_cases hkl : k < l.length
      · simp only [hkl, if_true]
        by_cases ho : (l.getD k Tm.zero).op = 1
        · right
          simp only [ho, not_true_eq_false, decide_false, true_and]
          refine ⟨by omega, fun j hj => ?_⟩
          rcases Nat.lt_or_ge j k with h | h
          · exact h3 j h
          · obtain rfl : j = k := by omega
            exact ho
        · left
          simp only [ho, not_false_eq_true, decide_true, true_and]
          exact fun h => ho (rbOk_op h hkl)
      · left
        simp only [hkl, if_false, true_and]
        exact fun h => by have := h.1; omega
theorem curI_back {l : List Tm} : ∀ {k j : Nat}, (curI l (k + j)).2 = false → (curI l k).2 = false
  | k, 0, h => h
  | k, j + 1, h => by
    refine curI_back (j := j) ?_
    cases hb : (curI l (k + j)).2 with
    | false => rfl
    | true =>
      have : (curI l (k + (j + 1))) = curI l (k + j) := by
        show curS l (curI l (k + j)) = _
        rw [curS, if_pos hb]
      rw [this, hb] at h
      cases h
theorem curI_val {l : List Tm} {k : Nat} (hk : k < 18) (h : (curI l 18).2 = false) : curV l (curI l k) = rbN l k := by
  have h1 : (curI l (k + 1)).2 = false := curI_back (j := 18 - (k + 1)) (by rw [show k + 1 + (18 - (k + 1)) = 18 by omega]; exact h)
  rcases curI_ok l (k + 1) (by omega) with ⟨h2, _⟩ | ⟨_, h3, _⟩
  · rw [h2] at h1; cases h1
  · have h0 : (curI l k).2 = false := curI_back (j := 1) h1
    rcases curI_ok l k (by omega) with ⟨h2, _⟩ | ⟨h2, _, _⟩
    · rw [h2] at h0; cases h0
    · rw [h2, curV]
      simp only [Bool.false_eq_true, if_false]
      rw [if_pos (by omega), rbN]
theorem ctx1 (r : List V) (h1 : V.erL r = r) (h2 : V.ltbL 2 r = true) : CtxOk [r, []] 1 :=
  .of (by simp) (by simp [h1, V.erL]) (by simp [h2, V.ltbL])
abbrev z18 : List V := [.d (I 0), .d (U 0), .d (U 0), .d (I 0), .d (U 0), .d (U 0), .d (I 0), .d (U 0), .d (U 0), .d (I 0), .d (U 0), .d (U 0), .d (I 0), .d (I 0), .d (I 0), .d (I 0), .d (I 0), .d (I 0)]
abbrev bx18 (f0 h0 a0 f1 h1 a1 f2 h2 a2 f3 h3 a3 p0 p1 l0 l1 r0 r1 : Int) : List V := [.d (I f0), .d (U h0), .d (U a0), .d (I f1), .d (U h1), .d (U a1), .d (I f2), .d (U h2), .d (U a2), .d (I f3), .d (U h3), .d (U a3), .d (I p0), .d (I p1), .d (I l0), .d (I l1), .d (I r0), .d (I r1)]
theorem a43 {l : List Tm} (hl : l.length < 1000000) (s : Nat × Bool) :
    CV VP 71 [.ptr 1 0] [z18, [.d (.sl (l.map Tm.row)), .d (I (s.1 : Nat)), .d (B s.2)]] = some ⟨.agg [.d (I (curV l s)), .d (U (uw (curV l (curS l s)))), .d (U (uw (curV l (curS l (curS l s)))))], [z18, [.d (.sl (l.map Tm.row)), .d (I ((curS l (curS l (curS l s))).1 : Nat)), .d (B (curS l (curS l (curS l s))).2)]], [], 0⟩ :=
  e86a hl s 1 _ (ctx1 z18 rfl rfl)
theorem n43 {l : List Tm} (hl : l.length < 1000000) (s : Nat × Bool) :
    CV VP 60 [.ptr 1 0] [z18, [.d (.sl (l.map Tm.row)), .d (I (s.1 : Nat)), .d (B s.2)]] = some ⟨.d (I (curV l s)), [z18, [.d (.sl (l.map Tm.row)), .d (I ((curS l s).1 : Nat)), .d (B (curS l s).2)]], [], 0⟩ :=
  e87a hl s 1 _ (ctx1 z18 rfl rfl)
set_option maxRecDepth 20000 in
set_option maxHeartbeats 8000000 in
theorem e43 (l : List Tm) (hl : l.length < 1000000) : CV VP 32 [.d (.sl (l.map Tm.row))] [] = some ⟨rbV l, [], [], 0⟩ := by
  have a0 := a43 hl (curI l 0)
  have a3 := a43 hl (curI l 3)
  have a6 := a43 hl (curI l 6)
  have a9 := a43 hl (curI l 9)
  have a12 := n43 hl (curI l 12)
  have a13 := n43 hl (curI l 13)
  have a14 := n43 hl (curI l 14)
  have a15 := n43 hl (curI l 15)
  have a16 := n43 hl (curI l 16)
  have a17 := n43 hl (curI l 17)
  have e0 : curS l (curI l 0) = curI l 1 := rfl
  have e1 : curS l (curI l 1) = curI l 2 := rfl
  have e2 : curS l (curI l 2) = curI l 3 := rfl
  have e3 : curS l (curI l 3) = curI l 4 := rfl
  have e4 : curS l (curI l 4) = curI l 5 := rfl
  have e5 : curS l (curI l 5) = curI l 6 := rfl
  have e6 : curS l (curI l 6) = curI l 7 := rfl
  have e7 : curS l (curI l 7) = curI l 8 := rfl
  have e8 : curS l (curI l 8) = curI l 9 := rfl
  have e9 : curS l (curI l 9) = curI l 10 := rfl
  have e10 : curS l (curI l 10) = curI l 11 := rfl
  have e11 : curS l (curI l 11) = curI l 12 := rfl
  have e12 : curS l (curI l 12) = curI l 13 := rfl
  have e13 : curS l (curI l 13) = curI l 14 := rfl
  have e14 : curS l (curI l 14) = curI l 15 := rfl
  have e15 : curS l (curI l 15) = curI l 16 := rfl
  have e16 : curS l (curI l 16) = curI l 17 := rfl
  have e17 : curS l (curI l 17) = curI l 18 := rfl
  simp only [e0, e1, e2, e3, e4, e5, e6, e7, e8, e9, e10, e11, e12, e13, e14, e15, e16, e17] at a0 a3 a6 a9 a12 a13 a14 a15 a16 a17
  have hz : curI l 0 = (0, false) := rfl
  simp only [hz, nc0] at a0
  clear e0 e1 e2 e3 e4 e5 e6 e7 e8 e9 e10 e11 e12 e13 e14 e15 e16 e17 hz
  have hok := curI_ok l 18 (Nat.le_refl _)
  have hval := fun k hk => curI_val (l := l) (k := k) hk
  have hv0 := hval 0 (by decide)
  have hz : curI l 0 = (0, false) := rfl
  rw [hz] at hv0
  have hv1 := hval 1 (by decide)
  have hv2 := hval 2 (by decide)
  have hv3 := hval 3 (by decide)
  have hv4 := hval 4 (by decide)
  have hv5 := hval 5 (by decide)
  have hv6 := hval 6 (by decide)
  have hv7 := hval 7 (by decide)
  have hv8 := hval 8 (by decide)
  have hv9 := hval 9 (by decide)
  have hv10 := hval 10 (by decide)
  have hv11 := hval 11 (by decide)
  have hv12 := hval 12 (by decide)
  have hv13 := hval 13 (by decide)
  have hv14 := hval 14 (by decide)
  have hv15 := hval 15 (by decide)
  have hv16 := hval 16 (by decide)
  have hv17 := hval 17 (by decide)
  clear hval hz
  generalize curV l (0, false) = v0 at *
  generalize curV l (curI l 1) = v1 at *
  generalize curV l (curI l 2) = v2 at *
  generalize curV l (curI l 3) = v3 at *
  generalize curV l (curI l 4) = v4 at *
  generalize curV l (curI l 5) = v5 at *
  generalize curV l (curI l 6) = v6 at *
  generalize curV l (curI l 7) = v7 at *
  generalize curV l (curI l 8) = v8 at *
  generalize curV l (curI l 9) = v9 at *
  generalize curV l (curI l 10) = v10 at *
  generalize curV l (curI l 11) = v11 at *
  generalize curV l (curI l 12) = v12 at *
  generalize curV l (curI l 13) = v13 at *
  generalize curV l (curI l 14) = v14 at *
  generalize curV l (curI l 15) = v15 at *
  generalize curV l (curI l 16) = v16 at *
  generalize curV l (curI l 17) = v17 at *
  generalize curI l 3 = s3 at *
  generalize curI l 6 = s6 at *
  generalize curI l 9 = s9 at *
  generalize curI l 12 = s12 at *
  generalize curI l 13 = s13 at *
  generalize curI l 14 = s14 at *
  generalize curI l 15 = s15 at *
  generalize curI l 16 = s16 at *
  generalize curI l 17 = s17 at *
  generalize curI l 18 = s18 at *
  have w0 : IntKind.i64.wrap (0 + 1) = 1 := rfl
  have w1 : IntKind.i64.wrap (1 + 1) = 2 := rfl
  have w2 : IntKind.i64.wrap (2 + 1) = 3 := rfl
  have w3 : IntKind.i64.wrap (3 + 1) = 4 := rfl
  have w4 : IntKind.i64.wrap (4 + 1) = 5 := rfl
  have w5 : IntKind.i64.wrap (5 + 1) = 6 := rfl
  simp only [z18, bx18] at a0 a3 a6 a9 a12 a13 a14 a15 a16 a17
  refine CV_run (vf := vf32) rfl rfl ?_
  rw [vf32_start]
  (repeat (first
    | refine RX_seq ?_
    | refine RX_block ?_
    | ((first | refine RX_reg ?_ | refine RX_cond' ?_ | refine RX_draw0 ?_ | refine RX_draw rfl ?_ | refine RX_skip ?_ | refine RX_gfrz ?_ | refine RX_exit ?_ | refine RX_ret ?_); try (simp only [go_sem, Nat.max_zero, List.isEmpty_cons, Int.reduceToNat, Nat.reducePow, Int.reduceEq, Int.reduceNe, Int.reduceLT, Int.reduceLE, Nat.reduceAdd, Nat.reduceLeDiff, ↓reduceIte, Nat.reduceLT, Nat.reduceMul, Nat.reduceSub, reduceCtorEq, frzLoc, rowCells, vAppM, beq_iff_eq, bne_iff_ne, bne_self_eq_false, beq_self_eq_true, beq_true, beq_false, I, B, w, vf32_res, vf32_keep, a0, a3, a6, a9, a12, a13, a14, a15, a16, a17]))))
  refine RX_loop ?_
  (refine RL_head ?_; (simp only [go_sem, Nat.max_zero, List.isEmpty_cons, Int.reduceToNat, Nat.reducePow, Int.reduceEq, Int.reduceNe, Int.reduceLT, Int.reduceLE, Nat.reduceAdd, Nat.reduceLeDiff, ↓reduceIte, Nat.reduceLT, Nat.reduceMul, Nat.reduceSub, reduceCtorEq, frzLoc, rowCells, vAppM, beq_iff_eq, bne_iff_ne, bne_self_eq_false, beq_self_eq_true, beq_true, beq_false, I, B, w, St.head, forget, vf32K0, RLK_some, vf32_res, vf32_keep, w0, a0, a3, a6, a9, a12, a13, a14, a15, a16, a17]); refine vf32L0_go ?_; ((repeat (first
    | refine RX_seq ?_
    | refine RX_block ?_
    | ((first | refine RX_reg ?_ | refine RX_cond' ?_ | refine RX_draw0 ?_ | refine RX_draw rfl ?_ | refine RX_skip ?_ | refine RX_gfrz ?_ | refine RX_exit ?_ | refine RX_ret ?_); try (simp only [go_sem, Nat.max_zero, List.isEmpty_cons, Int.reduceToNat, Nat.reducePow, Int.reduceEq, Int.reduceNe, Int.reduceLT, Int.reduceLE, Nat.reduceAdd, Nat.reduceLeDiff, ↓reduceIte, Nat.reduceLT, Nat.reduceMul, Nat.reduceSub, reduceCtorEq, frzLoc, rowCells, vAppM, beq_iff_eq, bne_iff_ne, bne_self_eq_false, beq_self_eq_true, beq_true, beq_false, I, B, w, vf32_res, vf32_keep, w0, a0, a3, a6, a9, a12, a13, a14, a15, a16, a17]))))))
  (refine RL_head ?_; (simp only [go_sem, Nat.max_zero, List.isEmpty_cons, Int.reduceToNat, Nat.reducePow, Int.reduceEq, Int.reduceNe, Int.reduceLT, Int.reduceLE, Nat.reduceAdd, Nat.reduceLeDiff, ↓reduceIte, Nat.reduceLT, Nat.reduceMul, Nat.reduceSub, reduceCtorEq, frzLoc, rowCells, vAppM, beq_iff_eq, bne_iff_ne, bne_self_eq_false, beq_self_eq_true, beq_true, beq_false, I, B, w, St.head, forget, vf32K0, RLK_some, vf32_res, vf32_keep, w1, a0, a3, a6, a9, a12, a13, a14, a15, a16, a17]); refine vf32L0_go ?_; ((repeat (first
    | refine RX_seq ?_
    | refine RX_block ?_
    | ((first | refine RX_reg ?_ | refine RX_cond' ?_ | refine RX_draw0 ?_ | refine RX_draw rfl ?_ | refine RX_skip ?_ | refine RX_gfrz ?_ | refine RX_exit ?_ | refine RX_ret ?_); try (simp only [go_sem, Nat.max_zero, List.isEmpty_cons, Int.reduceToNat, Nat.reducePow, Int.reduceEq, Int.reduceNe, Int.reduceLT, Int.reduceLE, Nat.reduceAdd, Nat.reduceLeDiff, ↓reduceIte, Nat.reduceLT, Nat.reduceMul, Nat.reduceSub, reduceCtorEq, frzLoc, rowCells, vAppM, beq_iff_eq, bne_iff_ne, bne_self_eq_false, beq_self_eq_true, beq_true, beq_false, I, B, w, vf32_res, vf32_keep, w1, a0, a3, a6, a9, a12, a13, a14, a15, a16, a17]))))))
  (refine RL_head ?_; (simp only [go_sem, Nat.max_zero, List.isEmpty_cons, Int.reduceToNat, Nat.reducePow, Int.reduceEq, Int.reduceNe, Int.reduceLT, Int.reduceLE, Nat.reduceAdd, Nat.reduceLeDiff, ↓reduceIte, Nat.reduceLT, Nat.reduceMul, Nat.reduceSub, reduceCtorEq, frzLoc, rowCells, vAppM, beq_iff_eq, bne_iff_ne, bne_self_eq_false, beq_self_eq_true, beq_true, beq_false, I, B, w, St.head, forget, vf32K0, RLK_some, vf32_res, vf32_keep, w2, a0, a3, a6, a9, a12, a13, a14, a15, a16, a17]); refine vf32L0_go ?_; ((repeat (first
    | refine RX_seq ?_
    | refine RX_block ?_
    | ((first | refine RX_reg ?_ | refine RX_cond' ?_ | refine RX_draw0 ?_ | refine RX_draw rfl ?_ | refine RX_skip ?_ | refine RX_gfrz ?_ | refine RX_exit ?_ | refine RX_ret ?_); try (simp only [go_sem, Nat.max_zero, List.isEmpty_cons, Int.reduceToNat, Nat.reducePow, Int.reduceEq, Int.reduceNe, Int.reduceLT, Int.reduceLE, Nat.reduceAdd, Nat.reduceLeDiff, ↓reduceIte, Nat.reduceLT, Nat.reduceMul, Nat.reduceSub, reduceCtorEq, frzLoc, rowCells, vAppM, beq_iff_eq, bne_iff_ne, bne_self_eq_false, beq_self_eq_true, beq_true, beq_false, I, B, w, vf32_res, vf32_keep, w2, a0, a3, a6, a9, a12, a13, a14, a15, a16, a17]))))))
  (refine RL_head ?_; (simp only [go_sem, Nat.max_zero, List.isEmpty_cons, Int.reduceToNat, Nat.reducePow, Int.reduceEq, Int.reduceNe, Int.reduceLT, Int.reduceLE, Nat.reduceAdd, Nat.reduceLeDiff, ↓reduceIte, Nat.reduceLT, Nat.reduceMul, Nat.reduceSub, reduceCtorEq, frzLoc, rowCells, vAppM, beq_iff_eq, bne_iff_ne, bne_self_eq_false, beq_self_eq_true, beq_true, beq_false, I, B, w, St.head, forget, vf32K0, RLK_some, vf32_res, vf32_keep, w3, a0, a3, a6, a9, a12, a13, a14, a15, a16, a17]); refine vf32L0_go ?_; ((repeat (first
    | refine RX_seq ?_
    | refine RX_block ?_
    | ((first | refine RX_reg ?_ | refine RX_cond' ?_ | refine RX_draw0 ?_ | refine RX_draw rfl ?_ | refine RX_skip ?_ | refine RX_gfrz ?_ | refine RX_exit ?_ | refine RX_ret ?_); try (simp only [go_sem, Nat.max_zero, List.isEmpty_cons, Int.reduceToNat, Nat.reducePow, Int.reduceEq, Int.reduceNe, Int.reduceLT, Int.reduceLE, Nat.reduceAdd, Nat.reduceLeDiff, ↓reduceIte, Nat.reduceLT, Nat.reduceMul, Nat.reduceSub, reduceCtorEq, frzLoc, rowCells, vAppM, beq_iff_eq, bne_iff_ne, bne_self_eq_false, beq_self_eq_true, beq_true, beq_false, I, B, w, vf32_res, vf32_keep, w3, a0, a3, a6, a9, a12, a13, a14, a15, a16, a17]))))))
  (refine RL_head ?_; (simp only [go_sem, Nat.max_zero, List.isEmpty_cons, Int.reduceToNat, Nat.reducePow, Int.reduceEq, Int.reduceNe, Int.reduceLT, Int.reduceLE, Nat.reduceAdd, Nat.reduceLeDiff, ↓reduceIte, Nat.reduceLT, Nat.reduceMul, Nat.reduceSub, reduceCtorEq, frzLoc, rowCells, vAppM, beq_iff_eq, bne_iff_ne, bne_self_eq_false, beq_self_eq_true, beq_true, beq_false, I, B, w, St.head, forget, vf32K0, RLK_some, vf32_res, vf32_keep, a0, a3, a6, a9, a12, a13, a14, a15, a16, a17]); refine vf32L0_go ?_; ((repeat (first
    | refine RX_seq ?_
    | refine RX_block ?_
    | ((first | refine RX_reg ?_ | refine RX_cond' ?_ | refine RX_draw0 ?_ | refine RX_draw rfl ?_ | refine RX_skip ?_ | refine RX_gfrz ?_ | refine RX_exit ?_ | refine RX_ret ?_); try (simp only [go_sem, Nat.max_zero, List.isEmpty_cons, Int.reduceToNat, Nat.reducePow, Int.reduceEq, Int.reduceNe, Int.reduceLT, Int.reduceLE, Nat.reduceAdd, Nat.reduceLeDiff, ↓reduceIte, Nat.reduceLT, Nat.reduceMul, Nat.reduceSub, reduceCtorEq, frzLoc, rowCells, vAppM, beq_iff_eq, bne_iff_ne, bne_self_eq_false, beq_self_eq_true, beq_true, beq_false, I, B, w, vf32_res, vf32_keep, a0, a3, a6, a9, a12, a13, a14, a15, a16, a17]))))))
  refine RX_loop ?_
  (refine RL_head ?_; (simp only [go_sem, Nat.max_zero, List.isEmpty_cons, Int.reduceToNat, Nat.reducePow, Int.reduceEq, Int.reduceNe, Int.reduceLT, Int.reduceLE, Nat.reduceAdd, Nat.reduceLeDiff, ↓reduceIte, Nat.reduceLT, Nat.reduceMul, Nat.reduceSub, reduceCtorEq, frzLoc, rowCells, vAppM, beq_iff_eq, bne_iff_ne, bne_self_eq_false, beq_self_eq_true, beq_true, beq_false, I, B, w, St.head, forget, vf32K1, RLK_some, vf32_res, vf32_keep, w0, a0, a3, a6, a9, a12, a13, a14, a15, a16, a17]); refine vf32L1_go ?_; ((repeat (first
    | refine RX_seq ?_
    | refine RX_block ?_
    | ((first | refine RX_reg ?_ | refine RX_cond' ?_ | refine RX_draw0 ?_ | refine RX_draw rfl ?_ | refine RX_skip ?_ | refine RX_gfrz ?_ | refine RX_exit ?_ | refine RX_ret ?_); try (simp only [go_sem, Nat.max_zero, List.isEmpty_cons, Int.reduceToNat, Nat.reducePow, Int.reduceEq, Int.reduceNe, Int.reduceLT, Int.reduceLE, Nat.reduceAdd, Nat.reduceLeDiff, ↓reduceIte, Nat.reduceLT, Nat.reduceMul, Nat.reduceSub, reduceCtorEq, frzLoc, rowCells, vAppM, beq_iff_eq, bne_iff_ne, bne_self_eq_false, beq_self_eq_true, beq_true, beq_false, I, B, w, vf32_res, vf32_keep, w0, a0, a3, a6, a9, a12, a13, a14, a15, a16, a17]))))))
  (refine RL_head ?_; (simp only [go_sem, Nat.max_zero, List.isEmpty_cons, Int.reduceToNat, Nat.reducePow, Int.reduceEq, Int.reduceNe, Int.reduceLT, Int.reduceLE, Nat.reduceAdd, Nat.reduceLeDiff, ↓reduceIte, Nat.reduceLT, Nat.reduceMul, Nat.reduceSub, reduceCtorEq, frzLoc, rowCells, vAppM, beq_iff_eq, bne_iff_ne, bne_self_eq_false, beq_self_eq_true, beq_true, beq_false, I, B, w, St.head, forget, vf32K1, RLK_some, vf32_res, vf32_keep, w1, a0, a3, a6, a9, a12, a13, a14, a15, a16, a17]); refine vf32L1_go ?_; ((repeat (first
    | refine RX_seq ?_
    | refine RX_block ?_
    | ((first | refine RX_reg ?_ | refine RX_cond' ?_ | refine RX_draw0 ?_ | refine RX_draw rfl ?_ | refine RX_skip ?_ | refine RX_gfrz ?_ | refine RX_exit ?_ | refine RX_ret ?_); try (simp only [go_sem, Nat.max_zero, List.isEmpty_cons, Int.reduceToNat, Nat.reducePow, Int.reduceEq, Int.reduceNe, Int.reduceLT, Int.reduceLE, Nat.reduceAdd, Nat.reduceLeDiff, ↓reduceIte, Nat.reduceLT, Nat.reduceMul, Nat.reduceSub, reduceCtorEq, frzLoc, rowCells, vAppM, beq_iff_eq, bne_iff_ne, bne_self_eq_false, beq_self_eq_true, beq_true, beq_false, I, B, w, vf32_res, vf32_keep, w1, a0, a3, a6, a9, a12, a13, a14, a15, a16, a17]))))))
  (refine RL_head ?_; (simp only [go_sem, Nat.max_zero, List.isEmpty_cons, Int.reduceToNat, Nat.reducePow, Int.reduceEq, Int.reduceNe, Int.reduceLT, Int.reduceLE, Nat.reduceAdd, Nat.reduceLeDiff, ↓reduceIte, Nat.reduceLT, Nat.reduceMul, Nat.reduceSub, reduceCtorEq, frzLoc, rowCells, vAppM, beq_iff_eq, bne_iff_ne, bne_self_eq_false, beq_self_eq_true, beq_true, beq_false, I, B, w, St.head, forget, vf32K1, RLK_some, vf32_res, vf32_keep, w2, a0, a3, a6, a9, a12, a13, a14, a15, a16, a17]); refine vf32L1_go ?_; ((repeat (first
    | refine RX_seq ?_
    | refine RX_block ?_
    | ((first | refine RX_reg ?_ | refine RX_cond' ?_ | refine RX_draw0 ?_ | refine RX_draw rfl ?_ | refine RX_skip ?_ | refine RX_gfrz ?_ | refine RX_exit ?_ | refine RX_ret ?_); try (simp only [go_sem, Nat.max_zero, List.isEmpty_cons, Int.reduceToNat, Nat.reducePow, Int.reduceEq, Int.reduceNe, Int.reduceLT, Int.reduceLE, Nat.reduceAdd, Nat.reduceLeDiff, ↓reduceIte, Nat.reduceLT, Nat.reduceMul, Nat.reduceSub, reduceCtorEq, frzLoc, rowCells, vAppM, beq_iff_eq, bne_iff_ne, bne_self_eq_false, beq_self_eq_true, beq_true, beq_false, I, B, w, vf32_res, vf32_keep, w2, a0, a3, a6, a9, a12, a13, a14, a15, a16, a17]))))))
  (refine RL_head ?_; (simp only [go_sem, Nat.max_zero, List.isEmpty_cons, Int.reduceToNat, Nat.reducePow, Int.reduceEq, Int.reduceNe, Int.reduceLT, Int.reduceLE, Nat.reduceAdd, Nat.reduceLeDiff, ↓reduceIte, Nat.reduceLT, Nat.reduceMul, Nat.reduceSub, reduceCtorEq, frzLoc, rowCells, vAppM, beq_iff_eq, bne_iff_ne, bne_self_eq_false, beq_self_eq_true, beq_true, beq_false, I, B, w, St.head, forget, vf32K1, RLK_some, vf32_res, vf32_keep, w3, a0, a3, a6, a9, a12, a13, a14, a15, a16, a17]); refine vf32L1_go ?_; ((repeat (first
    | refine RX_seq ?_
    | refine RX_block ?_
    | ((first | refine RX_reg ?_ | refine RX_cond' ?_ | refine RX_draw0 ?_ | refine RX_draw rfl ?_ | refine RX_skip ?_ | refine RX_gfrz ?_ | refine RX_exit ?_ | refine RX_ret ?_); try (simp only [go_sem, Nat.max_zero, List.isEmpty_cons, Int.reduceToNat, Nat.reducePow, Int.reduceEq, Int.reduceNe, Int.reduceLT, Int.reduceLE, Nat.reduceAdd, Nat.reduceLeDiff, ↓reduceIte, Nat.reduceLT, Nat.reduceMul, Nat.reduceSub, reduceCtorEq, frzLoc, rowCells, vAppM, beq_iff_eq, bne_iff_ne, bne_self_eq_false, beq_self_eq_true, beq_true, beq_false, I, B, w, vf32_res, vf32_keep, w3, a0, a3, a6, a9, a12, a13, a14, a15, a16, a17]))))))
  (refine RL_head ?_; (simp only [go_sem, Nat.max_zero, List.isEmpty_cons, Int.reduceToNat, Nat.reducePow, Int.reduceEq, Int.reduceNe, Int.reduceLT, Int.reduceLE, Nat.reduceAdd, Nat.reduceLeDiff, ↓reduceIte, Nat.reduceLT, Nat.reduceMul, Nat.reduceSub, reduceCtorEq, frzLoc, rowCells, vAppM, beq_iff_eq, bne_iff_ne, bne_self_eq_false, beq_self_eq_true, beq_true, beq_false, I, B, w, St.head, forget, vf32K1, RLK_some, vf32_res, vf32_keep, w4, a0, a3, a6, a9, a12, a13, a14, a15, a16, a17]); refine vf32L1_go ?_; ((repeat (first
    | refine RX_seq ?_
    | refine RX_block ?_
    | ((first | refine RX_reg ?_ | refine RX_cond' ?_ | refine RX_draw0 ?_ | refine RX_draw rfl ?_ | refine RX_skip ?_ | refine RX_gfrz ?_ | refine RX_exit ?_ | refine RX_ret ?_); try (simp only [go_sem, Nat.max_zero, List.isEmpty_cons, Int.reduceToNat, Nat.reducePow, Int.reduceEq, Int.reduceNe, Int.reduceLT, Int.reduceLE, Nat.reduceAdd, Nat.reduceLeDiff, ↓reduceIte, Nat.reduceLT, Nat.reduceMul, Nat.reduceSub, reduceCtorEq, frzLoc, rowCells, vAppM, beq_iff_eq, bne_iff_ne, bne_self_eq_false, beq_self_eq_true, beq_true, beq_false, I, B, w, vf32_res, vf32_keep, w4, a0, a3, a6, a9, a12, a13, a14, a15, a16, a17]))))))
  (refine RL_head ?_; (simp only [go_sem, Nat.max_zero, List.isEmpty_cons, Int.reduceToNat, Nat.reducePow, Int.reduceEq, Int.reduceNe, Int.reduceLT, Int.reduceLE, Nat.reduceAdd, Nat.reduceLeDiff, ↓reduceIte, Nat.reduceLT, Nat.reduceMul, Nat.reduceSub, reduceCtorEq, frzLoc, rowCells, vAppM, beq_iff_eq, bne_iff_ne, bne_self_eq_false, beq_self_eq_true, beq_true, beq_false, I, B, w, St.head, forget, vf32K1, RLK_some, vf32_res, vf32_keep, w5, a0, a3, a6, a9, a12, a13, a14, a15, a16, a17]); refine vf32L1_go ?_; ((repeat (first
    | refine RX_seq ?_
    | refine RX_block ?_
    | ((first | refine RX_reg ?_ | refine RX_cond' ?_ | refine RX_draw0 ?_ | refine RX_draw rfl ?_ | refine RX_skip ?_ | refine RX_gfrz ?_ | refine RX_exit ?_ | refine RX_ret ?_); try (simp only [go_sem, Nat.max_zero, List.isEmpty_cons, Int.reduceToNat, Nat.reducePow, Int.reduceEq, Int.reduceNe, Int.reduceLT, Int.reduceLE, Nat.reduceAdd, Nat.reduceLeDiff, ↓reduceIte, Nat.reduceLT, Nat.reduceMul, Nat.reduceSub, reduceCtorEq, frzLoc, rowCells, vAppM, beq_iff_eq, bne_iff_ne, bne_self_eq_false, beq_self_eq_true, beq_true, beq_false, I, B, w, vf32_res, vf32_keep, w5, a0, a3, a6, a9, a12, a13, a14, a15, a16, a17]))))))
  (refine RL_head ?_; (simp only [go_sem, Nat.max_zero, List.isEmpty_cons, Int.reduceToNat, Nat.reducePow, Int.reduceEq, Int.reduceNe, Int.reduceLT, Int.reduceLE, Nat.reduceAdd, Nat.reduceLeDiff, ↓reduceIte, Nat.reduceLT, Nat.reduceMul, Nat.reduceSub, reduceCtorEq, frzLoc, rowCells, vAppM, beq_iff_eq, bne_iff_ne, bne_self_eq_false, beq_self_eq_true, beq_true, beq_false, I, B, w, St.head, forget, vf32K1, RLK_some, vf32_res, vf32_keep, a0, a3, a6, a9, a12, a13, a14, a15, a16, a17]); refine vf32L1_go ?_; ((repeat (first
    | refine RX_seq ?_
    | refine RX_block ?_
    | ((first | refine RX_reg ?_ | refine RX_cond' ?_ | refine RX_draw0 ?_ | refine RX_draw rfl ?_ | refine RX_skip ?_ | refine RX_gfrz ?_ | refine RX_exit ?_ | refine RX_ret ?_); try (simp only [go_sem, Nat.max_zero, List.isEmpty_cons, Int.reduceToNat, Nat.reducePow, Int.reduceEq, Int.reduceNe, Int.reduceLT, Int.reduceLE, Nat.reduceAdd, Nat.reduceLeDiff, ↓reduceIte, Nat.reduceLT, Nat.reduceMul, Nat.reduceSub, reduceCtorEq, frzLoc, rowCells, vAppM, beq_iff_eq, bne_iff_ne, bne_self_eq_false, beq_self_eq_true, beq_true, beq_false, I, B, w, vf32_res, vf32_keep, a0, a3, a6, a9, a12, a13, a14, a15, a16, a17]))))))
  clear a0 a3 a6 a9 a12 a13 a14 a15 a16 a17
  refine RX_loopN (n := 3) rfl ?_
  have hinit : ∃ (m : Nat), ((s18.2 = true ∧ rbV l = rb0) ∨ (s18.2 = false ∧ s18.1 = 18 ∧ 18 + m = l.length ∧ (∀ (j : Nat) (p : Tm), j < 18 → l[j]? = some p → p.op = 1) ∧ rbC l = chk v0 (uw v1) (uw v2) v3 (uw v4) (uw v5) v6 (uw v7) (uw v8) v9 (uw v10) (uw v11) v12 v13 v14 v15 v16 v17 ∧ (rbOk l → rbC l = 0 → rbV l = .tup [.agg [.d (I v0), .d (U (uw v1)), .d (U (uw v2)), .d (I v3), .d (U (uw v4)), .d (U (uw v5)), .d (I v6), .d (U (uw v7)), .d (U (uw v8)), .d (I v9), .d (U (uw v10)), .d (U (uw v11)), .d (I v12), .d (I v13), .d (I v14), .d (I v15), .d (I v16), .d (I v17)], .d (.lit (.string (rbS l))), .d (B true)]))) := by
    rcases hok with ⟨h1, h2⟩ | ⟨h1, h2, h3⟩
    · exact ⟨0, .inl ⟨h1, rbV_bad h2⟩⟩
    · rw [h1] at hv0 hv1 hv2 hv3 hv4 hv5 hv6 hv7 hv8 hv9 hv10 hv11 hv12 hv13 hv14 hv15 hv16 hv17
      refine ⟨l.length - 18, .inr ⟨by rw [h1], by rw [h1], by omega, fun j p hj hp => ?_, ?_, fun k1 k2 => ?_⟩⟩
      · have := h3 j hj
        rwa [List.getD_eq_getElem?_getD, hp] at this
      · simp only [rbC, ← hv0 rfl, ← hv1 rfl, ← hv2 rfl, ← hv3 rfl, ← hv4 rfl, ← hv5 rfl, ← hv6 rfl, ← hv7 rfl, ← hv8 rfl, ← hv9 rfl, ← hv10 rfl, ← hv11 rfl, ← hv12 rfl, ← hv13 rfl, ← hv14 rfl, ← hv15 rfl, ← hv16 rfl, ← hv17 rfl]
      · unfold rbV
        rw [if_pos ⟨k1, k2⟩]
        simp only [← hv0 rfl, ← hv1 rfl, ← hv2 rfl, ← hv3 rfl, ← hv4 rfl, ← hv5 rfl, ← hv6 rfl, ← hv7 rfl, ← hv8 rfl, ← hv9 rfl, ← hv10 rfl, ← hv11 rfl, ← hv12 rfl, ← hv13 rfl, ← hv14 rfl, ← hv15 rfl, ← hv16 rfl, ← hv17 rfl]
  clear hok hv0 hv1 hv2 hv3 hv4 hv5 hv6 hv7 hv8 hv9 hv10 hv11 hv12 hv13 hv14 hv15 hv16 hv17
  obtain ⟨m0, hinit⟩ := hinit
  obtain ⟨n18, b18⟩ := s18
  simp only at hinit
  refine RL_ind (fun m st => ∃ (n : Nat) (b : Bool) (v : V) (live : List Nat) (gn : Nat) (rows : List (List D)), Acc 1 v live rows ∧ rows.length ≤ 1000 ∧
      ((b = true ∧ rbV l = rb0) ∨ (b = false ∧ 18 ≤ n ∧ n ≤ 34 ∧ n + m = l.length ∧ (∀ (j : Nat) (p : Tm), j < n → l[j]? = some p → p.op = 1 ∧ (18 ≤ j → rbB p)) ∧ rows = byR ((l.take n).drop 18) ∧ rbC l = chk v0 (uw v1) (uw v2) v3 (uw v4) (uw v5) v6 (uw v7) (uw v8) v9 (uw v10) (uw v11) v12 v13 v14 v15 v16 v17 ∧ (rbOk l → rbC l = 0 → rbV l = .tup [.agg [.d (I v0), .d (U (uw v1)), .d (U (uw v2)), .d (I v3), .d (U (uw v4)), .d (U (uw v5)), .d (I v6), .d (U (uw v7)), .d (U (uw v8)), .d (I v9), .d (U (uw v10)), .d (U (uw v11)), .d (I v12), .d (I v13), .d (I v14), .d (I v15), .d (I v16), .d (I v17)], .d (.lit (.string (rbS l))), .d (B true)]))) ∧
      At vf32K2 3 st ((.d (.sl (l.map Tm.row)) :: .any :: .ptr 0 0 :: .any :: .any :: .ptr 1 0 :: .ptr 2 0 :: .any :: .any :: .any :: .any :: v :: .any :: .any :: .any :: .any :: .any :: .any :: .any :: .any :: .any :: .any :: .any :: .any :: .any :: .any :: .any :: .any :: .any :: .any :: .any :: .any :: .any :: .any :: .any :: .any :: .any :: .any :: .any :: .any :: .any :: .any :: .any :: .any :: .any :: .any :: .any :: .any :: .any :: .any :: .any :: .any :: .any :: .any :: .any :: .any :: .any :: .any :: .any :: .any :: .any :: .any :: .any :: .any :: .any :: .any :: .any :: .any :: .any :: .any :: .any :: .any :: .any :: .any :: .any :: .any :: .any :: .any :: .any :: .any :: .any :: .any :: .any :: .any :: .any :: .any :: .any :: .any :: .any :: .any :: .any :: .any :: .any :: .any :: .any :: .any :: .any :: .any :: .any :: .any :: .any :: .any :: .any :: .any :: .any :: .any :: [])) [[.d (I 0), .d (U 0), .d (U 0), .d (I 0), .d (U 0), .d (U 0), .d (I 0), .d (U 0), .d (U 0), .d (I 0), .d (U 0), .d (U 0), .d (I 0), .d (I 0), .d (I 0), .d (I 0), .d (I 0), .d (I 0)], [.d (.sl (l.map Tm.row)), .d (I (n : Nat)), .d (B b)], [.d (I v0), .d (U (uw v1)), .d (U (uw v2)), .d (I v3), .d (U (uw v4)), .d (U (uw v5)), .d (I v6), .d (U (uw v7)), .d (U (uw v8)), .d (I v9), .d (U (uw v10)), .d (U (uw v11)), .d (I v12), .d (I v13), .d (I v14), .d (I v15), .d (I v16), .d (I v17)]] live gn 0) ?_ m0 _
    ⟨n18, b18, .nil, [], 0, [], .inl ⟨rfl, rfl, rfl⟩, by simp, ?_, rfl, rfl, rfl, rfl, rfl, rfl⟩
  case refine_2 =>
    rcases hinit with h | ⟨h1, h2, h3, h4, h5⟩
    · exact .inl h
    · subst h1 h2
      exact .inr ⟨rfl, by omega, by omega, h3, fun j p hj hp => ⟨h4 j p hj hp, fun h => absurd h (by omega)⟩, by rw [byR, List.drop_eq_nil_of_le (by rw [List.length_take]; omega)]; rfl, h5⟩
  clear hinit
  rintro m st ⟨n, b, v, live, gn, rows, hv, hrl, hph, hat⟩ ih
  have hat0 := hat
  clear hat
  rcases hph with ⟨rfl, hbad⟩ | ⟨rfl, hn18, hn34, hnm, hgood, hrows, hC, hV⟩
  · rw [hbad]
    simp only [rb0]
    clear ih
    rcases hv with ⟨rfl, rfl, _⟩ | ⟨g, rfl, rfl⟩ <;>
    · refine RL_at hat0 rfl rfl (vf32L2_go ?_)
      (repeat (first
    | refine RX_seq ?_
    | refine RX_block ?_
    | ((first | refine RX_reg ?_ | refine RX_cond' ?_ | refine RX_draw0 ?_ | refine RX_draw rfl ?_ | refine RX_skip ?_ | refine RX_gfrz ?_ | refine RX_exit ?_ | refine RX_ret ?_); try (simp only [go_sem, Nat.max_zero, List.isEmpty_cons, Int.reduceToNat, Nat.reducePow, Int.reduceEq, Int.reduceNe, Int.reduceLT, Int.reduceLE, Nat.reduceAdd, Nat.reduceLeDiff, ↓reduceIte, Nat.reduceLT, Nat.reduceMul, Nat.reduceSub, reduceCtorEq, frzLoc, rowCells, vAppM, beq_iff_eq, bne_iff_ne, bne_self_eq_false, beq_self_eq_true, beq_true, beq_false, I, B, w, vf32_res, vf32_keep]))))
  · have hrn : rows.length = n - 18 := by rw [hrows, byR, List.length_map, List.length_drop, List.length_take]; omega
    cases m with
    | zero =>
      have h1 : ¬ n < l.length := by omega
      have hrb : rbOk l := by
        refine ⟨by omega, by omega, fun t ht => ?_, fun t ht => ?_⟩
        · obtain ⟨j, hj⟩ := List.getElem?_of_mem ht
          exact (hgood j t (by have := (List.getElem?_eq_some_iff.1 hj).1; omega) hj).1
        · obtain ⟨j, hj⟩ := List.getElem?_of_mem ht
          rw [List.getElem?_drop] at hj
          exact (hgood (18 + j) t (by have := (List.getElem?_eq_some_iff.1 hj).1; omega) hj).2 (by omega)
      rw [List.take_of_length_le (by omega)] at hrows
      have hby := byR_bytes (ts := l.drop 18)
      rw [← hrows] at hby
      have hS : rbS l = ⟨((l.drop 18).map fun t => UInt8.ofNat t.val.toNat).toArray⟩ := rfl
      have h88 := e88 v0 (uw v1) (uw v2) v3 (uw v4) (uw v5) v6 (uw v7) (uw v8) v9 (uw v10) (uw v11) v12 v13 v14 v15 v16 v17
      clear ih hgood
      by_cases h0 : chk v0 (uw v1) (uw v2) v3 (uw v4) (uw v5) v6 (uw v7) (uw v8) v9 (uw v10) (uw v11) v12 v13 v14 v15 v16 v17 = 0
      · rw [hV hrb (by rw [hC]; exact h0), hS]
        rw [h0] at h88
        generalize (l.drop 18).map (fun t => UInt8.ofNat t.val.toNat) = bys at *
        rcases hv with ⟨rfl, rfl, hr0⟩ | ⟨g, rfl, rfl⟩
        · have hb0 : bys = [] := by rw [hr0] at hby; simp only [bytesOf, Option.some.injEq] at hby; exact hby.symm
          subst hb0
          refine RL_at hat0 rfl rfl (vf32L2_go ?_)
          (repeat (first
    | refine RX_seq ?_
    | refine RX_block ?_
    | ((first | refine RX_reg ?_ | refine RX_cond' ?_ | refine RX_draw0 ?_ | refine RX_draw rfl ?_ | refine RX_skip ?_ | refine RX_gfrz ?_ | refine RX_exit ?_ | refine RX_ret ?_); try (simp only [go_sem, Nat.max_zero, List.isEmpty_cons, Int.reduceToNat, Nat.reducePow, Int.reduceEq, Int.reduceNe, Int.reduceLT, Int.reduceLE, Nat.reduceAdd, Nat.reduceLeDiff, ↓reduceIte, Nat.reduceLT, Nat.reduceMul, Nat.reduceSub, reduceCtorEq, frzLoc, rowCells, vAppM, beq_iff_eq, bne_iff_ne, bne_self_eq_false, beq_self_eq_true, beq_true, beq_false, I, B, w, vf32_res, vf32_keep, List.length_map, h1, h88, ibne, vRows, bytesOf]))))
        · refine RL_at hat0 rfl rfl (vf32L2_go ?_)
          (repeat (first
    | refine RX_seq ?_
    | refine RX_block ?_
    | ((first | refine RX_reg ?_ | refine RX_cond' ?_ | refine RX_draw0 ?_ | refine RX_draw rfl ?_ | refine RX_skip ?_ | refine RX_gfrz ?_ | refine RX_exit ?_ | refine RX_ret ?_); try (simp only [go_sem, Nat.max_zero, List.isEmpty_cons, Int.reduceToNat, Nat.reducePow, Int.reduceEq, Int.reduceNe, Int.reduceLT, Int.reduceLE, Nat.reduceAdd, Nat.reduceLeDiff, ↓reduceIte, Nat.reduceLT, Nat.reduceMul, Nat.reduceSub, reduceCtorEq, frzLoc, rowCells, vAppM, beq_iff_eq, bne_iff_ne, bne_self_eq_false, beq_self_eq_true, beq_true, beq_false, I, B, w, vf32_res, vf32_keep, List.length_map, h1, h88, ibne, vRows, hby]))))
      · have hV0 : rbV l = rb0 := by
          unfold rbV
          rw [if_neg]
          rintro ⟨_, h⟩
          rw [hC] at h
          exact h0 h
        rw [hV0]
        simp only [rb0]
        rcases hv with ⟨rfl, rfl, hr0⟩ | ⟨g, rfl, rfl⟩
        · refine RL_at hat0 rfl rfl (vf32L2_go ?_)
          (repeat (first
    | refine RX_seq ?_
    | refine RX_block ?_
    | ((first | refine RX_reg ?_ | refine RX_cond' ?_ | refine RX_draw0 ?_ | refine RX_draw rfl ?_ | refine RX_skip ?_ | refine RX_gfrz ?_ | refine RX_exit ?_ | refine RX_ret ?_); try (simp only [go_sem, Nat.max_zero, List.isEmpty_cons, Int.reduceToNat, Nat.reducePow, Int.reduceEq, Int.reduceNe, Int.reduceLT, Int.reduceLE, Nat.reduceAdd, Nat.reduceLeDiff, ↓reduceIte, Nat.reduceLT, Nat.reduceMul, Nat.reduceSub, reduceCtorEq, frzLoc, rowCells, vAppM, beq_iff_eq, bne_iff_ne, bne_self_eq_false, beq_self_eq_true, beq_true, beq_false, I, B, w, vf32_res, vf32_keep, List.length_map, h1, h88, ibne, h0]))))
        · refine RL_at hat0 rfl rfl (vf32L2_go ?_)
          (repeat (first
    | refine RX_seq ?_
    | refine RX_block ?_
    | ((first | refine RX_reg ?_ | refine RX_cond' ?_ | refine RX_draw0 ?_ | refine RX_draw rfl ?_ | refine RX_skip ?_ | refine RX_gfrz ?_ | refine RX_exit ?_ | refine RX_ret ?_); try (simp only [go_sem, Nat.max_zero, List.isEmpty_cons, Int.reduceToNat, Nat.reducePow, Int.reduceEq, Int.reduceNe, Int.reduceLT, Int.reduceLE, Nat.reduceAdd, Nat.reduceLeDiff, ↓reduceIte, Nat.reduceLT, Nat.reduceMul, Nat.reduceSub, reduceCtorEq, frzLoc, rowCells, vAppM, beq_iff_eq, bne_iff_ne, bne_self_eq_false, beq_self_eq_true, beq_true, beq_false, I, B, w, vf32_res, vf32_keep, List.length_map, h1, h88, ibne, h0]))))
    | succ m =>
      have h1 : n < l.length := by omega
      obtain ⟨p, hp⟩ : ∃ p, l[n]? = some p := ⟨_, List.getElem?_eq_getElem h1⟩
      have hrp : (l.map Tm.row)[n]? = some [I p.op, I p.val, .sl (p.args.map Tm.row)] := by rw [List.getElem?_map, hp]; simp [Tm.row_eq]
      have q : CV VP 60 [.ptr 1 0] [[.d (I 0), .d (U 0), .d (U 0), .d (I 0), .d (U 0), .d (U 0), .d (I 0), .d (U 0), .d (U 0), .d (I 0), .d (U 0), .d (U 0), .d (I 0), .d (I 0), .d (I 0), .d (I 0), .d (I 0), .d (I 0)], [.d (.sl (l.map Tm.row)), .d (I (n : Nat)), .d (B false)]] = some ⟨.d (I p.val), [[.d (I 0), .d (U 0), .d (U 0), .d (I 0), .d (U 0), .d (U 0), .d (I 0), .d (U 0), .d (U 0), .d (I 0), .d (U 0), .d (U 0), .d (I 0), .d (I 0), .d (I 0), .d (I 0), .d (I 0), .d (I 0)], [.d (.sl (l.map Tm.row)), .d (I ((n + 1 : Nat) : Int)), .d (B (decide (¬ p.op = 1)))]], [], 0⟩ :=
        e87g (by omega) (by simpa using h1) hrp 1 _ (ctx1 [.d (I 0), .d (U 0), .d (U 0), .d (I 0), .d (U 0), .d (U 0), .d (I 0), .d (U 0), .d (U 0), .d (I 0), .d (U 0), .d (U 0), .d (I 0), .d (I 0), .d (I 0), .d (I 0), .d (I 0), .d (I 0)] rfl rfl)
      have bad : ¬ (p.op = 1 ∧ rbB p ∧ n < 34) → rbV l = rb0 := fun h => rbV_bad fun k => h ⟨k.2.2.1 p (List.mem_of_getElem? hp), k.2.2.2 p (List.mem_of_getElem? (i := n - 18) (by rw [List.getElem?_drop, show 18 + (n - 18) = n by omega]; exact hp)), by have := k.2.1; omega⟩
      have toBad := fun (h : rbV l = rb0) v live gn rows st (hv : Acc 1 v live rows) (hl : rows.length ≤ 1000) hat => ih m st (Nat.lt_succ_self m) ⟨n + 1, true, v, live, gn, rows, hv, hl, .inl ⟨rfl, h⟩, hat⟩
      have toGood := fun (h : p.op = 1 ∧ rbB p ∧ n < 34) v live gn st (hv : Acc 1 v live (byR ((l.take (n + 1)).drop 18))) hat => ih m st (Nat.lt_succ_self m) ⟨n + 1, false, v, live, gn, _, hv, by rw [byR, List.length_map, List.length_drop, List.length_take]; omega, .inr ⟨rfl, by omega, by omega, by omega, fun j q hj hq => by
        rcases Nat.lt_or_ge j n with hji | hji
        · exact hgood j q hji hq
        · obtain rfl : j = n := by omega
          rw [hp] at hq; cases hq; exact ⟨h.1, fun _ => h.2.1⟩, rfl, hC, hV⟩, hat⟩
      clear ih hgood hrp hC hV
      have hlen1 : rows.length + 1 ≤ 4294967296 := by omega
      have hle2 : (rows ++ [[D.lit (.int .u8 (IntKind.u8.wrap p.val))]]).length ≤ 1000 := by rw [List.length_append]; simp; omega
      by_cases h2 : p.op = 1
      case neg =>
        have hb := toBad (bad fun h => h2 h.1)
        rcases hv with ⟨rfl, rfl, hr0⟩ | ⟨g, rfl, rfl⟩
        · refine RL_at hat0 rfl rfl (vf32L2_go ?_)
          (repeat (first
    | refine RX_seq ?_
    | refine RX_block ?_
    | ((first | refine RX_reg ?_ | refine RX_cond' ?_ | refine RX_draw0 ?_ | refine RX_draw rfl ?_ | refine RX_skip ?_ | refine RX_gfrz ?_ | refine RX_exit ?_ | refine RX_ret ?_); try (simp only [go_sem, Nat.max_zero, List.isEmpty_cons, Int.reduceToNat, Nat.reducePow, Int.reduceEq, Int.reduceNe, Int.reduceLT, Int.reduceLE, Nat.reduceAdd, Nat.reduceLeDiff, ↓reduceIte, Nat.reduceLT, Nat.reduceMul, Nat.reduceSub, reduceCtorEq, frzLoc, rowCells, vAppM, beq_iff_eq, bne_iff_ne, bne_self_eq_false, beq_self_eq_true, beq_true, beq_false, I, B, w, vf32_res, vf32_keep, List.length_map, h1, q, decide_not, h2]))))
          exact hb _ _ _ _ _ (.inr ⟨_, rfl, rfl⟩) (by simp) ⟨rfl, rfl, rfl, rfl, rfl, rfl⟩
        · refine RL_at hat0 rfl rfl (vf32L2_go ?_)
          (repeat (first
    | refine RX_seq ?_
    | refine RX_block ?_
    | ((first | refine RX_reg ?_ | refine RX_cond' ?_ | refine RX_draw0 ?_ | refine RX_draw rfl ?_ | refine RX_skip ?_ | refine RX_gfrz ?_ | refine RX_exit ?_ | refine RX_ret ?_); try (simp only [go_sem, Nat.max_zero, List.isEmpty_cons, Int.reduceToNat, Nat.reducePow, Int.reduceEq, Int.reduceNe, Int.reduceLT, Int.reduceLE, Nat.reduceAdd, Nat.reduceLeDiff, ↓reduceIte, Nat.reduceLT, Nat.reduceMul, Nat.reduceSub, reduceCtorEq, frzLoc, rowCells, vAppM, beq_iff_eq, bne_iff_ne, bne_self_eq_false, beq_self_eq_true, beq_true, beq_false, I, B, w, vf32_res, vf32_keep, List.length_map, h1, q, decide_not, h2, hlen1]))))
          exact hb _ _ _ _ _ (.inr ⟨_, rfl, rfl⟩) hle2 ⟨rfl, rfl, rfl, rfl, rfl, rfl⟩
      by_cases h3 : p.val < 0
      · have hb := toBad (bad fun h => by have := h.2.1.1; omega)
        rcases hv with ⟨rfl, rfl, hr0⟩ | ⟨g, rfl, rfl⟩
        · refine RL_at hat0 rfl rfl (vf32L2_go ?_)
          (repeat (first
    | refine RX_seq ?_
    | refine RX_block ?_
    | ((first | refine RX_reg ?_ | refine RX_cond' ?_ | refine RX_draw0 ?_ | refine RX_draw rfl ?_ | refine RX_skip ?_ | refine RX_gfrz ?_ | refine RX_exit ?_ | refine RX_ret ?_); try (simp only [go_sem, Nat.max_zero, List.isEmpty_cons, Int.reduceToNat, Nat.reducePow, Int.reduceEq, Int.reduceNe, Int.reduceLT, Int.reduceLE, Nat.reduceAdd, Nat.reduceLeDiff, ↓reduceIte, Nat.reduceLT, Nat.reduceMul, Nat.reduceSub, reduceCtorEq, frzLoc, rowCells, vAppM, beq_iff_eq, bne_iff_ne, bne_self_eq_false, beq_self_eq_true, beq_true, beq_false, I, B, w, vf32_res, vf32_keep, List.length_map, h1, q, decide_not, h2, h3]))))
          exact hb _ _ _ _ _ (.inr ⟨_, rfl, rfl⟩) (by simp) ⟨rfl, rfl, rfl, rfl, rfl, rfl⟩
        · refine RL_at hat0 rfl rfl (vf32L2_go ?_)
          (repeat (first
    | refine RX_seq ?_
    | refine RX_block ?_
    | ((first | refine RX_reg ?_ | refine RX_cond' ?_ | refine RX_draw0 ?_ | refine RX_draw rfl ?_ | refine RX_skip ?_ | refine RX_gfrz ?_ | refine RX_exit ?_ | refine RX_ret ?_); try (simp only [go_sem, Nat.max_zero, List.isEmpty_cons, Int.reduceToNat, Nat.reducePow, Int.reduceEq, Int.reduceNe, Int.reduceLT, Int.reduceLE, Nat.reduceAdd, Nat.reduceLeDiff, ↓reduceIte, Nat.reduceLT, Nat.reduceMul, Nat.reduceSub, reduceCtorEq, frzLoc, rowCells, vAppM, beq_iff_eq, bne_iff_ne, bne_self_eq_false, beq_self_eq_true, beq_true, beq_false, I, B, w, vf32_res, vf32_keep, List.length_map, h1, q, decide_not, h2, h3, hlen1]))))
          exact hb _ _ _ _ _ (.inr ⟨_, rfl, rfl⟩) hle2 ⟨rfl, rfl, rfl, rfl, rfl, rfl⟩
      by_cases h4 : 255 < p.val
      · have hb := toBad (bad fun h => by have := h.2.1.2; omega)
        rcases hv with ⟨rfl, rfl, hr0⟩ | ⟨g, rfl, rfl⟩
        · refine RL_at hat0 rfl rfl (vf32L2_go ?_)
          (repeat (first
    | refine RX_seq ?_
    | refine RX_block ?_
    | ((first | refine RX_reg ?_ | refine RX_cond' ?_ | refine RX_draw0 ?_ | refine RX_draw rfl ?_ | refine RX_skip ?_ | refine RX_gfrz ?_ | refine RX_exit ?_ | refine RX_ret ?_); try (simp only [go_sem, Nat.max_zero, List.isEmpty_cons, Int.reduceToNat, Nat.reducePow, Int.reduceEq, Int.reduceNe, Int.reduceLT, Int.reduceLE, Nat.reduceAdd, Nat.reduceLeDiff, ↓reduceIte, Nat.reduceLT, Nat.reduceMul, Nat.reduceSub, reduceCtorEq, frzLoc, rowCells, vAppM, beq_iff_eq, bne_iff_ne, bne_self_eq_false, beq_self_eq_true, beq_true, beq_false, I, B, w, vf32_res, vf32_keep, List.length_map, h1, q, decide_not, h2, h3, h4, gt_iff_lt]))))
          exact hb _ _ _ _ _ (.inr ⟨_, rfl, rfl⟩) (by simp) ⟨rfl, rfl, rfl, rfl, rfl, rfl⟩
        · refine RL_at hat0 rfl rfl (vf32L2_go ?_)
          (repeat (first
    | refine RX_seq ?_
    | refine RX_block ?_
    | ((first | refine RX_reg ?_ | refine RX_cond' ?_ | refine RX_draw0 ?_ | refine RX_draw rfl ?_ | refine RX_skip ?_ | refine RX_gfrz ?_ | refine RX_exit ?_ | refine RX_ret ?_); try (simp only [go_sem, Nat.max_zero, List.isEmpty_cons, Int.reduceToNat, Nat.reducePow, Int.reduceEq, Int.reduceNe, Int.reduceLT, Int.reduceLE, Nat.reduceAdd, Nat.reduceLeDiff, ↓reduceIte, Nat.reduceLT, Nat.reduceMul, Nat.reduceSub, reduceCtorEq, frzLoc, rowCells, vAppM, beq_iff_eq, bne_iff_ne, bne_self_eq_false, beq_self_eq_true, beq_true, beq_false, I, B, w, vf32_res, vf32_keep, List.length_map, h1, q, decide_not, h2, h3, h4, gt_iff_lt, hlen1]))))
          exact hb _ _ _ _ _ (.inr ⟨_, rfl, rfl⟩) hle2 ⟨rfl, rfl, rfl, rfl, rfl, rfl⟩
      have hu8 : IntKind.u8.wrap p.val = p.val := by
        show p.val % 256 = p.val
        omega
      have hsn := take_drop_snoc hp hn18
      by_cases h5 : n < 34
      · have hg := toGood ⟨h2, ⟨by omega, by omega⟩, h5⟩
        rw [hsn] at hg
        have h16 : ¬ (16 : Int) ≤ (rows.length : Int) := by omega
        have h016 : ¬ (16 : Int) ≤ 0 := by decide
        rcases hv with ⟨rfl, rfl, hr0⟩ | ⟨g, rfl, rfl⟩
        · refine RL_at hat0 rfl rfl (vf32L2_go ?_)
          (repeat (first
    | refine RX_seq ?_
    | refine RX_block ?_
    | ((first | refine RX_reg ?_ | refine RX_cond' ?_ | refine RX_draw0 ?_ | refine RX_draw rfl ?_ | refine RX_skip ?_ | refine RX_gfrz ?_ | refine RX_exit ?_ | refine RX_ret ?_); try (simp only [go_sem, Nat.max_zero, List.isEmpty_cons, Int.reduceToNat, Nat.reducePow, Int.reduceEq, Int.reduceNe, Int.reduceLT, Int.reduceLE, Nat.reduceAdd, Nat.reduceLeDiff, ↓reduceIte, Nat.reduceLT, Nat.reduceMul, Nat.reduceSub, reduceCtorEq, frzLoc, rowCells, vAppM, beq_iff_eq, bne_iff_ne, bne_self_eq_false, beq_self_eq_true, beq_true, beq_false, I, B, w, vf32_res, vf32_keep, List.length_map, h1, q, decide_not, h2, h3, h4, gt_iff_lt, ge_iff_le, h016, hu8]))))
          refine hg _ _ _ _ (.inr ⟨_, ?_, rfl⟩) ⟨rfl, rfl, rfl, rfl, rfl, rfl⟩
          rw [byR, List.map_append, show (List.map (fun t => [D.lit (Value.int IntKind.u8 (Tm.val t))]) ((l.take n).drop 18)) = [] from hrows.symm.trans hr0]
          rfl
        · refine RL_at hat0 rfl rfl (vf32L2_go ?_)
          (repeat (first
    | refine RX_seq ?_
    | refine RX_block ?_
    | ((first | refine RX_reg ?_ | refine RX_cond' ?_ | refine RX_draw0 ?_ | refine RX_draw rfl ?_ | refine RX_skip ?_ | refine RX_gfrz ?_ | refine RX_exit ?_ | refine RX_ret ?_); try (simp only [go_sem, Nat.max_zero, List.isEmpty_cons, Int.reduceToNat, Nat.reducePow, Int.reduceEq, Int.reduceNe, Int.reduceLT, Int.reduceLE, Nat.reduceAdd, Nat.reduceLeDiff, ↓reduceIte, Nat.reduceLT, Nat.reduceMul, Nat.reduceSub, reduceCtorEq, frzLoc, rowCells, vAppM, beq_iff_eq, bne_iff_ne, bne_self_eq_false, beq_self_eq_true, beq_true, beq_false, I, B, w, vf32_res, vf32_keep, List.length_map, h1, q, decide_not, h2, h3, h4, gt_iff_lt, ge_iff_le, h16, hu8, hlen1]))))
          refine hg _ _ _ _ (.inr ⟨_, ?_, rfl⟩) ⟨rfl, rfl, rfl, rfl, rfl, rfl⟩
          rw [hrows]
          simp [byR]
      · have hb := toBad (bad fun h => h5 h.2.2)
        have h16 : (16 : Int) ≤ (rows.length : Int) := by omega
        rcases hv with ⟨rfl, rfl, hr0⟩ | ⟨g, rfl, rfl⟩
        · exfalso; rw [hr0] at hrn; simp at hrn; omega
        · refine RL_at hat0 rfl rfl (vf32L2_go ?_)
          (repeat (first
    | refine RX_seq ?_
    | refine RX_block ?_
    | ((first | refine RX_reg ?_ | refine RX_cond' ?_ | refine RX_draw0 ?_ | refine RX_draw rfl ?_ | refine RX_skip ?_ | refine RX_gfrz ?_ | refine RX_exit ?_ | refine RX_ret ?_); try (simp only [go_sem, Nat.max_zero, List.isEmpty_cons, Int.reduceToNat, Nat.reducePow, Int.reduceEq, Int.reduceNe, Int.reduceLT, Int.reduceLE, Nat.reduceAdd, Nat.reduceLeDiff, ↓reduceIte, Nat.reduceLT, Nat.reduceMul, Nat.reduceSub, reduceCtorEq, frzLoc, rowCells, vAppM, beq_iff_eq, bne_iff_ne, bne_self_eq_false, beq_self_eq_true, beq_true, beq_false, I, B, w, vf32_res, vf32_keep, List.length_map, h1, q, decide_not, h2, h3, h4, gt_iff_lt, ge_iff_le, h16, hlen1]))))
          exact hb _ _ _ _ _ (.inr ⟨_, rfl, rfl⟩) hle2 ⟨rfl, rfl, rfl, rfl, rfl, rfl⟩
end Go.Proofs.Ytjhfakhmflemmaa

set_option maxRecDepth 100000
namespace Go.Proofs.Ytjhfakhmflemmaa
open Go.VM
theorem rowsT (A : List Tm) : ∀ r ∈ A.map Tm.row, r.length = 3 := by
  intro r hr
  obtain ⟨t, _, rfl⟩ := List.mem_map.1 hr
  rw [Tm.row_eq]; rfl
theorem frzTm (A : List Tm) {n : Nat} (hn : A.length = n) : frzLoc (some (rowCells (A.map Tm.row))) 0 n 3 = .d (.sl (A.map Tm.row)) := by
  have hl := rowCells_len (rowsT A)
  rw [List.length_map] at hl
  subst hn
  simp only [frzLoc]
  rw [if_pos (by omega), List.drop_zero, List.take_of_length_le (by omega), rowCells, toDs_map]
  simp only
  have := chunk_flat (rowsT A)
  rw [List.length_map] at this
  rw [this]
theorem rowCells_cons (a : Tm) (A : List Tm) : rowCells ((a :: A).map Tm.row) = .d (I a.op) :: .d (I a.val) :: .d (.sl (a.args.map Tm.row)) :: rowCells (A.map Tm.row) := by
  simp [rowCells, Tm.row_eq]
theorem set_row : ∀ {A : List Tm} {j : Nat} {t : Tm} (_ : A[j]? = some t) (z : Int),
    List.take (j * 3 + 1) (rowCells (A.map Tm.row)) ++ [.d (I z)] ++ List.drop (j * 3 + 1 + 1) (rowCells (A.map Tm.row)) = rowCells ((A.set j (.mk t.op z t.args)).map Tm.row)
  | [], j, t, h, z => by simp at h
  | a :: A, 0, t, h, z => by
    simp only [List.getElem?_cons_zero, Option.some.injEq] at h
    subst h
    rw [rowCells_cons, List.set_cons_zero, rowCells_cons]
    simp [Tm.op_mk, Tm.val_mk, Tm.args_mk]
  | a :: A, j + 1, t, h, z => by
    have ih := set_row (A := A) (j := j) (t := t) (by simpa using h) z
    have e1 : (j + 1) * 3 + 1 = j * 3 + 1 + 1 + 1 + 1 := by omega
    rw [e1, rowCells_cons, List.set_cons_succ, rowCells_cons]
    simp only [List.take_succ_cons, List.drop_succ_cons, List.cons_append]
    rw [ih]
theorem app_rows {A : List Tm} {n : Nat} (hl : A.length = n + 1) (hn : n < 1000000) (st : St) : vAppM st 3 .nil (A.map Tm.row) = some (.loc st.blocks.length 0 (n + 1) 3, { st with blocks := st.blocks ++ [rowCells (A.map Tm.row)] }) := by
  match A, hl with
  | a :: A', hl =>
    unfold vAppM
    rw [if_pos ⟨by rw [List.length_map, hl]; omega, by rw [List.all_eq_true]; intro r hr; simpa using rowsT _ r hr⟩]
    simp only [List.map_cons, List.length_cons, List.length_map] at hl ⊢
    rw [hl]
theorem rbV_form (l : List Tm) : ∃ (f0 h0 a0 f1 h1 a1 f2 h2 a2 f3 h3 a3 p0 p1 l0 l1 r0 r1 : Int) (s : ByteArray) (b : Bool),
    rbV l = .tup [.agg [.d (I f0), .d (U h0), .d (U a0), .d (I f1), .d (U h1), .d (U a1), .d (I f2), .d (U h2), .d (U a2), .d (I f3), .d (U h3), .d (U a3), .d (I p0), .d (I p1), .d (I l0), .d (I l1), .d (I r0), .d (I r1)], .d (.lit (.string s)), .d (B b)] := by
  unfold rbV rb0
  split
  · exact ⟨_, _, _, _, _, _, _, _, _, _, _, _, _, _, _, _, _, _, _, _, rfl⟩
  · exact ⟨_, _, _, _, _, _, _, _, _, _, _, _, _, _, _, _, _, _, _, _, rfl⟩
def uR (n : Int) : Prop := 0 ≤ n ∧ n < 18446744073709551616
theorem uw_w {n : Int} (h : uR n) : uw (w n) = n := by
  obtain ⟨h1, h2⟩ := h
  have e : w n = (if (true && decide (n % 18446744073709551616 ≥ 9223372036854775808)) = true then n % 18446744073709551616 - 18446744073709551616 else n % 18446744073709551616) := rfl
  have e2 : ∀ z : Int, uw z = z % 18446744073709551616 := fun z => rfl
  rw [e2, e]
  simp only [Bool.true_and, decide_eq_true_eq]
  split <;> omega
theorem rbS_by (N : List Tm) (hN : N.length = 18) (t : ByteArray) : rbS (N ++ byT t.data.toList) = t := by
  unfold rbS
  rw [← hN, List.drop_left]
  simp only [byT, List.map_map]
  have : (fun t => UInt8.ofNat (Tm.val t).toNat) ∘ (fun c : UInt8 => nT (c.toNat : Int)) = id := by
    funext c
    simp [nT, Tm.val]
  rw [this, List.map_id]
/-- a box and its template come back -/
theorem rbV_box (f0 h0 a0 f1 h1 a1 f2 h2 a2 f3 h3 a3 p0 p1 l0 l1 r0 r1 : Int) (t : ByteArray) (q0 : uR h0) (q1 : uR a0) (q2 : uR h1) (q3 : uR a1) (q4 : uR h2) (q5 : uR a2) (q6 : uR h3) (q7 : uR a3) :
    rbV (bqN f0 h0 a0 f1 h1 a1 f2 h2 a2 f3 h3 a3 p0 p1 l0 l1 r0 r1 ++ byT t.data.toList) = .tup [b18 f0 h0 a0 f1 h1 a1 f2 h2 a2 f3 h3 a3 p0 p1 l0 l1 r0 r1, .d (.lit (.string t)), .d (B true)] ∨
    rbV (bqN f0 h0 a0 f1 h1 a1 f2 h2 a2 f3 h3 a3 p0 p1 l0 l1 r0 r1 ++ byT t.data.toList) = rb0 := by
  unfold rbV
  split
  · left
    rw [rbS_by _ rfl]
    simp only [rbN, bqN, List.cons_append, List.getD_cons_zero, List.getD_cons_succ, nT, Tm.val_mk, uw_w q0, uw_w q1, uw_w q2, uw_w q3, uw_w q4, uw_w q5, uw_w q6, uw_w q7]
  · right; rfl
theorem smalls_leaf : ∀ {A : List Tm}, (∀ t ∈ A, t.args = []) → Tm.smalls A
  | [], _ => trivial
  | .mk o v xs :: A, h => by
    have h0 : xs = [] := h _ (List.mem_cons_self ..)
    subst h0
    exact ⟨⟨by simp, trivial⟩, smalls_leaf fun t ht => h t (List.mem_cons_of_mem _ ht)⟩
theorem leafs (f0 h0 a0 f1 h1 a1 f2 h2 a2 f3 h3 a3 p0 p1 l0 l1 r0 r1 : Int) (t : List UInt8) : ∀ x ∈ bqN f0 h0 a0 f1 h1 a1 f2 h2 a2 f3 h3 a3 p0 p1 l0 l1 r0 r1 ++ byT t, x.args = [] := by
  intro x hx
  rcases List.mem_append.1 hx with hx | hx
  · simp only [bqN, List.mem_cons, List.not_mem_nil, or_false] at hx
    rcases hx with rfl | rfl | rfl | rfl | rfl | rfl | rfl | rfl | rfl | rfl | rfl | rfl | rfl | rfl | rfl | rfl | rfl | rfl <;> rfl
  · obtain ⟨c, _, rfl⟩ := List.mem_map.1 hx
    rfl
end Go.Proofs.Ytjhfakhmflemmaa

set_option maxRecDepth 100000
namespace Go.Proofs.Ytjhfakhmflemmaa
open Go.VM
theorem SBq {f0 h0 a0 f1 h1 a1 f2 h2 a2 f3 h3 a3 p0 p1 l0 l1 r0 r1 : Int} (q0 : uR h0) (q1 : uR a0) (q2 : uR h1) (q3 : uR a1) (q4 : uR h2) (q5 : uR a2) (q6 : uR h3) (q7 : uR a3) (t : ByteArray) (ht : t.size ≤ 40) (at' : Int) :
    ∃ (A : List Tm) (n j : Nat) (y : Tm), A.length = n + 1 ∧ 17 ≤ n ∧ n ≤ 57 ∧ at' % ((n + 1 : Nat) : Int) = (j : Int) ∧ j < n + 1 ∧ A[j]? = some y ∧
      (rbV A = .tup [b18 f0 h0 a0 f1 h1 a1 f2 h2 a2 f3 h3 a3 p0 p1 l0 l1 r0 r1, .d (.lit (.string t)), .d (B true)] ∨ rbV A = rb0) ∧
      CV VP 27 [b18 f0 h0 a0 f1 h1 a1 f2 h2 a2 f3 h3 a3 p0 p1 l0 l1 r0 r1, .d (.lit (.string t))] [] = some ⟨(pT 11 A).ag, [], [], 0⟩ ∧
      CV VP 29 [b18 f0 h0 a0 f1 h1 a1 f2 h2 a2 f3 h3 a3 p0 p1 l0 l1 r0 r1, .d (.lit (.string t))] [] = some ⟨(pT 11 A).ag, [], [], 0⟩ ∧
      CV VP 28 [.agg ((pT 11 A).row.map .d), .agg ((pT 11 A).row.map .d)] [] = some ⟨.d (B true), [], [], 0⟩ := by
  obtain ⟨A, hA⟩ : ∃ A, A = bqN f0 h0 a0 f1 h1 a1 f2 h2 a2 f3 h3 a3 p0 p1 l0 l1 r0 r1 ++ byT t.data.toList := ⟨_, rfl⟩
  have hl : A.length = 18 + t.size := by rw [hA, List.length_append, byT, List.length_map]; rfl
  have hm0 := Int.emod_nonneg at' (b := ((17 + t.size + 1 : Nat) : Int)) (by omega)
  have hm1 := Int.emod_lt_of_pos at' (b := ((17 + t.size + 1 : Nat) : Int)) (by omega)
  have hj : (at' % ((17 + t.size + 1 : Nat) : Int)).toNat < A.length := by omega
  refine ⟨A, 17 + t.size, (at' % ((17 + t.size + 1 : Nat) : Int)).toNat, A[(at' % ((17 + t.size + 1 : Nat) : Int)).toNat], by omega, by omega, by omega, by omega, by omega, List.getElem?_eq_getElem hj, ?_, ?_, ?_, ?_⟩
  · rw [hA]; exact rbV_box f0 h0 a0 f1 h1 a1 f2 h2 a2 f3 h3 a3 p0 p1 l0 l1 r0 r1 t q0 q1 q2 q3 q4 q5 q6 q7
  · rw [hA]; exact e63 f0 h0 a0 f1 h1 a1 f2 h2 a2 f3 h3 a3 p0 p1 l0 l1 r0 r1 t (by omega)
  · rw [hA]; exact e64 f0 h0 a0 f1 h1 a1 f2 h2 a2 f3 h3 a3 p0 p1 l0 l1 r0 r1 t (by omega)
  · have := e19 _ (pT 11 A) (pT 11 A) (Nat.lt_succ_self _) ⟨by simp only [List.length_cons]; omega, smalls_leaf fun x hx => by
      rcases List.mem_cons.1 hx with rfl | hx
      · rfl
      · rw [hA] at hx; exact leafs _ _ _ _ _ _ _ _ _ _ _ _ _ _ _ _ _ _ _ x hx⟩
    rw [Tm.eqb_refl] at this
    exact this
end Go.Proofs.Ytjhfakhmflemmaa

set_option maxRecDepth 100000
namespace Go.Proofs.Ytjhfakhmflemmaa
open Go.VM
set_option maxHeartbeats 16000000 in
theorem e4 {l : List Int} (hB : ByteL l) (t : ByteArray) (hi lo at' by' : Int) (uhi : uR hi) (ulo : uR lo) :
    CV VP 4 [.d (byteD l), .d (.lit (.string t)), .d (U hi), .d (U lo), .d (I at'), .d (I by')] [] = some ⟨.d (B true), [], [], 0⟩ := by
  by_cases ht : t.size ≤ 40
  case neg =>
    have ht2 : (40 : Int) < (t.size : Int) := by omega
    refine CV_run (vf := vf4) rfl rfl ?_
    rw [vf4_start]
    (repeat (first
    | refine RX_seq ?_
    | refine RX_block ?_
    | ((first | refine RX_reg ?_ | refine RX_cond' ?_ | refine RX_draw0 ?_ | refine RX_draw rfl ?_ | refine RX_skip ?_ | refine RX_gfrz ?_ | refine RX_exit ?_ | refine RX_ret ?_); try (simp only [go_sem, Nat.max_zero, List.isEmpty_cons, Int.reduceToNat, Nat.reducePow, Int.reduceEq, Int.reduceNe, Int.reduceLT, Int.reduceLE, Nat.reduceAdd, Nat.reduceLeDiff, ↓reduceIte, Nat.reduceLT, Nat.reduceMul, Nat.reduceSub, reduceCtorEq, frzLoc, rowCells, vAppM, beq_iff_eq, bne_iff_ne, bne_self_eq_false, beq_self_eq_true, beq_true, beq_false, I, B, w, vf4_res, vf4_keep, e13, ht2, V.str, gt_iff_lt]))))
  have ht2 : ¬ (40 : Int) < (t.size : Int) := by omega
  have h21 : CV VP 12 [.d (byteD l), .d (I 40)] [] = some ⟨.ptr 0 0, [[.sl 1 ((l.take 40).map byteRow) (.own 0 0), .d (I 0)]], [0], 1⟩ := e21 40 (by decide)
  have hB2 := bytes_take hB 40 (by decide)
  generalize l.take 40 = q at *
  have c2 : CV VP 17 [.ptr 0 0, .d (I 2)] [[.d (.sl (q.map byteRow)), .d (I 0)]] = some ⟨.d (I (nxV q 0 2)), [[.d (.sl (q.map byteRow)), .d (I (nxA q 0 : Nat))]], [], 0⟩ := e29b hB2 0 0 (n := 2) (by decide) (by decide) [[]] CtxOk.base
  have r2 := nxV_range hB2 (k := 0) (n := 2) (by decide)
  have cB : CV VP 26 [.ptr 0 0, .d (I (nxV q 0 2))] [[.d (.sl (q.map byteRow)), .d (I (nxA q 0 : Nat))]] = some ⟨(bxF q (nxV q 0 2) (nxA q 0)).1.ag, [[.d (.sl (q.map byteRow)), .d (I ((bxF q (nxV q 0 2) (nxA q 0)).2 : Nat))]], [], 0⟩ := (bxF_ok hB2 (nxV q 0 2) r2.1 (by omega) (nxA q 0)).2 0 [[]] CtxOk.base
  obtain ⟨hok, hfi⟩ := bxF_both hB2 (s := nxV q 0 2) r2.1 (by omega) (nxA q 0)
  generalize bxF q (nxV q 0 2) (nxA q 0) = P at *
  obtain ⟨⟨f, h, a0, b0, a1, b1, p0, p1, l0, l1, r0, r1⟩, k2⟩ := P
  have c3 : CV VP 17 [.ptr 0 0, .d (I 3)] [[.d (.sl (q.map byteRow)), .d (I (k2 : Nat))]] = some ⟨.d (I (nxV q k2 3)), [[.d (.sl (q.map byteRow)), .d (I (nxA q k2 : Nat))]], [], 0⟩ := e29b hB2 0 k2 (n := 3) (by decide) (by decide) [[]] CtxOk.base
  simp only at cB c3 hok hfi
  have uh : uR h := by
    rcases hok.fam with ⟨_, e⟩ | ⟨_, e⟩ <;> simp only at e <;> subst e <;> exact ⟨by decide, by decide⟩
  have fa0 := hfi.a0
  have fb0 := hfi.b0
  have fa1 := hfi.a1
  have fb1 := hfi.b1
  have fab0 := hfi.ab0
  have fab1 := hfi.ab1
  simp only at fa0 fb0 fa1 fb1 fab0 fab1
  have ua0 : uR a0 := ⟨by omega, by omega⟩
  have ub0 : uR b0 := ⟨by omega, by omega⟩
  have ua1 : uR a1 := ⟨by omega, by omega⟩
  have ub1 : uR b1 := ⟨by omega, by omega⟩
  clear hok hfi fa0 fb0 fa1 fb1 fab0 fab1 r2 hB2
  generalize nxV q 0 2 = s2 at *
  generalize nxA q 0 = k1 at *
  generalize nxA q k2 = k3 at *
  have h20 : ¬ (2 : Int) = 0 := by decide
  have hU : IntKind.u64.wrap (hi.tdiv 2) = hi.tdiv 2 := by
    have a1 := uhi.1
    have a2 := uhi.2
    show (hi.tdiv 2) % 18446744073709551616 = hi.tdiv 2
    rw [Int.tdiv_eq_ediv_of_nonneg a1]; omega
  by_cases h3 : nxV q k2 3 = 2
  · rw [h3] at c3
    obtain ⟨A, n, j, y, hAl, hn1, hn2, hj, hj1, hy, hV, c27, c29, c28⟩ := SBq (f0 := 6) (h0 := hi.tdiv 2) (a0 := lo) (f1 := 6) (h1 := hi) (a1 := lo) (f2 := 6) (h2 := hi.tdiv 2) (a2 := lo) (f3 := 6) (h3 := hi) (a3 := lo) (p0 := p0) (p1 := p1) (l0 := l0) (l1 := l1) (r0 := r0) (r1 := r1)
      ⟨Int.tdiv_nonneg uhi.1 (by decide), by have := uhi.1; have := uhi.2; rw [Int.tdiv_eq_ediv_of_nonneg uhi.1]; omega⟩ ulo uhi ulo ⟨Int.tdiv_nonneg uhi.1 (by decide), by have := uhi.1; have := uhi.2; rw [Int.tdiv_eq_ediv_of_nonneg uhi.1]; omega⟩ ulo uhi ulo t ht at'
    obtain ⟨A2, hA2⟩ : ∃ A2, A2 = A.set j (.mk y.op by' y.args) := ⟨_, rfl⟩
    have hst := set_row hy by'
    rw [← hA2] at hst
    have hA2l : A2.length = n + 1 := by rw [hA2]; simpa using hAl
    have hfr := frzTm A2 hA2l
    have happ := fun st => app_rows (A := A) hAl (by omega) st
    have hRC : (rowCells (A.map Tm.row)).length = (n + 1) * 3 := by rw [rowCells_len (rowsT A)]; simp [hAl]
    have hRC2 : (rowCells (A2.map Tm.row)).length = (n + 1) * 3 := by rw [rowCells_len (rowsT A2)]; simp [hA2l]
    have hRe : ∀ A : List Tm, V.erL (rowCells (A.map Tm.row)) = rowCells (A.map Tm.row) := fun A => erL_d _
    have hRt : ∀ n (A : List Tm), V.ltbL n (rowCells (A.map Tm.row)) = true := fun n A => ltbL_d n _
    have hj18 : j * 3 + 1 + 1 ≤ (n + 1) * 3 := by omega
    have hji : (j : Int) < ((n + 1 : Nat) : Int) := by omega
    have h43 := e43 A (by omega)
    have h44 := e44 A (by omega)
    have g43 := e43 A2 (by omega)
    have g44 := e44 A2 (by omega)
    have hall : ((A.map Tm.row).all fun r => r.length == 3) = true := by rw [List.all_eq_true]; intro r hr; simpa using rowsT _ r hr
    have htk : List.take (n + 1) (A.map Tm.row) = A.map Tm.row := List.take_of_length_le (by rw [List.length_map, hAl]; omega)
    have h14 := e14 at' ((n + 1 : Nat) : Int) (by omega) (by omega)
    rw [hj] at h14
    obtain ⟨xf0, xh0, xa0, xf1, xh1, xa1, xf2, xh2, xa2, xf3, xh3, xa3, xp0, xp1, xl0, xl1, xr0, xr1, xs, xb, xv⟩ := rbV_form A2
    rw [xv] at g43 g44
    have n19 : ¬ (((n + 1 + 1 : Nat) : Int) < 19) := by omega
    have n1n : 1 ≤ n + 1 + 1 := by omega
    have n1i : (1 : Int) ≤ ((n + 1 + 1 : Nat) : Int) := by omega
    clear xv hA2 hy hj hn1 hn2 uhi ulo uh ua0 ub0 ua1 ub1 hA2l
    simp only [pT, nT, Tm.ag, Tm.row_mk, Tm.op_mk, Tm.val_mk, Tm.args_mk, List.map_cons, List.map_nil] at c27 c28 c29
    rcases hV with hV | hV <;> rw [hV] at h43 h44 <;> clear hV
    · refine CV_run (vf := vf4) rfl rfl ?_
      rw [vf4_start]
      (repeat (first
    | refine RX_seq ?_
    | refine RX_block ?_
    | ((first | refine RX_reg ?_ | refine RX_cond' ?_ | refine RX_draw0 ?_ | refine RX_draw rfl ?_ | refine RX_skip ?_ | refine RX_gfrz ?_ | refine RX_exit ?_ | refine RX_ret ?_); try (simp only [go_sem, Nat.max_zero, List.isEmpty_cons, Int.reduceToNat, Nat.reducePow, Int.reduceEq, Int.reduceNe, Int.reduceLT, Int.reduceLE, Nat.reduceAdd, Nat.reduceLeDiff, ↓reduceIte, Nat.reduceLT, Nat.reduceMul, Nat.reduceSub, reduceCtorEq, beq_iff_eq, bne_iff_ne, bne_self_eq_false, beq_self_eq_true, beq_true, beq_false, I, B, w, vf4_res, vf4_keep, e13, V.str, gt_iff_lt, ht2, h21, c2, cB, c3, h3, h20, hU, c27, c28, c29, sw30, sw31, hAl, List.length_map, List.length_cons, happ, hj1, hji, hRC, hRC2, hRe, hRt, hj18, hst, hfr, h43, h44, g43, g44, h14, n19, n1i, n1n, hall, htk, vCellsEq, vCellEq, ibne, ibeq, vStr, Bool.not_true]))))
    · simp only [rb0] at h43 h44
      refine CV_run (vf := vf4) rfl rfl ?_
      rw [vf4_start]
      (repeat (first
    | refine RX_seq ?_
    | refine RX_block ?_
    | ((first | refine RX_reg ?_ | refine RX_cond' ?_ | refine RX_draw0 ?_ | refine RX_draw rfl ?_ | refine RX_skip ?_ | refine RX_gfrz ?_ | refine RX_exit ?_ | refine RX_ret ?_); try (simp only [go_sem, Nat.max_zero, List.isEmpty_cons, Int.reduceToNat, Nat.reducePow, Int.reduceEq, Int.reduceNe, Int.reduceLT, Int.reduceLE, Nat.reduceAdd, Nat.reduceLeDiff, ↓reduceIte, Nat.reduceLT, Nat.reduceMul, Nat.reduceSub, reduceCtorEq, beq_iff_eq, bne_iff_ne, bne_self_eq_false, beq_self_eq_true, beq_true, beq_false, I, B, w, vf4_res, vf4_keep, e13, V.str, gt_iff_lt, ht2, h21, c2, cB, c3, h3, h20, hU, c27, c28, c29, sw30, sw31, hAl, List.length_map, List.length_cons, happ, hj1, hji, hRC, hRC2, hRe, hRt, hj18, hst, hfr, h43, h44, g43, g44, h14, n19, n1i, n1n, hall, htk, vCellsEq, vCellEq, ibne, ibeq, vStr, Bool.not_true]))))
  · obtain ⟨A, n, j, y, hAl, hn1, hn2, hj, hj1, hy, hV, c27, c29, c28⟩ := SBq (f0 := f) (h0 := h) (a0 := a0) (f1 := f) (h1 := h) (a1 := b0) (f2 := f) (h2 := h) (a2 := a1) (f3 := f) (h3 := h) (a3 := b1) (p0 := p0) (p1 := p1) (l0 := l0) (l1 := l1) (r0 := r0) (r1 := r1) uh ua0 uh ub0 uh ua1 uh ub1 t ht at'
    obtain ⟨A2, hA2⟩ : ∃ A2, A2 = A.set j (.mk y.op by' y.args) := ⟨_, rfl⟩
    have hst := set_row hy by'
    rw [← hA2] at hst
    have hA2l : A2.length = n + 1 := by rw [hA2]; simpa using hAl
    have hfr := frzTm A2 hA2l
    have happ := fun st => app_rows (A := A) hAl (by omega) st
    have hRC : (rowCells (A.map Tm.row)).length = (n + 1) * 3 := by rw [rowCells_len (rowsT A)]; simp [hAl]
    have hRC2 : (rowCells (A2.map Tm.row)).length = (n + 1) * 3 := by rw [rowCells_len (rowsT A2)]; simp [hA2l]
    have hRe : ∀ A : List Tm, V.erL (rowCells (A.map Tm.row)) = rowCells (A.map Tm.row) := fun A => erL_d _
    have hRt : ∀ n (A : List Tm), V.ltbL n (rowCells (A.map Tm.row)) = true := fun n A => ltbL_d n _
    have hj18 : j * 3 + 1 + 1 ≤ (n + 1) * 3 := by omega
    have hji : (j : Int) < ((n + 1 : Nat) : Int) := by omega
    have h43 := e43 A (by omega)
    have h44 := e44 A (by omega)
    have g43 := e43 A2 (by omega)
    have g44 := e44 A2 (by omega)
    have hall : ((A.map Tm.row).all fun r => r.length == 3) = true := by rw [List.all_eq_true]; intro r hr; simpa using rowsT _ r hr
    have htk : List.take (n + 1) (A.map Tm.row) = A.map Tm.row := List.take_of_length_le (by rw [List.length_map, hAl]; omega)
    have h14 := e14 at' ((n + 1 : Nat) : Int) (by omega) (by omega)
    rw [hj] at h14
    obtain ⟨xf0, xh0, xa0, xf1, xh1, xa1, xf2, xh2, xa2, xf3, xh3, xa3, xp0, xp1, xl0, xl1, xr0, xr1, xs, xb, xv⟩ := rbV_form A2
    rw [xv] at g43 g44
    have n19 : ¬ (((n + 1 + 1 : Nat) : Int) < 19) := by omega
    have n1n : 1 ≤ n + 1 + 1 := by omega
    have n1i : (1 : Int) ≤ ((n + 1 + 1 : Nat) : Int) := by omega
    clear xv hA2 hy hj hn1 hn2 uhi ulo uh ua0 ub0 ua1 ub1 hA2l
    simp only [pT, nT, Tm.ag, Tm.row_mk, Tm.op_mk, Tm.val_mk, Tm.args_mk, List.map_cons, List.map_nil] at c27 c28 c29
    rcases hV with hV | hV <;> rw [hV] at h43 h44 <;> clear hV
    · refine CV_run (vf := vf4) rfl rfl ?_
      rw [vf4_start]
      (repeat (first
    | refine RX_seq ?_
    | refine RX_block ?_
    | ((first | refine RX_reg ?_ | refine RX_cond' ?_ | refine RX_draw0 ?_ | refine RX_draw rfl ?_ | refine RX_skip ?_ | refine RX_gfrz ?_ | refine RX_exit ?_ | refine RX_ret ?_); try (simp only [go_sem, Nat.max_zero, List.isEmpty_cons, Int.reduceToNat, Nat.reducePow, Int.reduceEq, Int.reduceNe, Int.reduceLT, Int.reduceLE, Nat.reduceAdd, Nat.reduceLeDiff, ↓reduceIte, Nat.reduceLT, Nat.reduceMul, Nat.reduceSub, reduceCtorEq, beq_iff_eq, bne_iff_ne, bne_self_eq_false, beq_self_eq_true, beq_true, beq_false, I, B, w, vf4_res, vf4_keep, e13, V.str, gt_iff_lt, ht2, h21, c2, cB, c3, h3, h20, hU, c27, c28, c29, sw30, sw31, hAl, List.length_map, List.length_cons, happ, hj1, hji, hRC, hRC2, hRe, hRt, hj18, hst, hfr, h43, h44, g43, g44, h14, n19, n1i, n1n, hall, htk, vCellsEq, vCellEq, ibne, ibeq, vStr, Bool.not_true]))))
    · simp only [rb0] at h43 h44
      refine CV_run (vf := vf4) rfl rfl ?_
      rw [vf4_start]
      (repeat (first
    | refine RX_seq ?_
    | refine RX_block ?_
    | ((first | refine RX_reg ?_ | refine RX_cond' ?_ | refine RX_draw0 ?_ | refine RX_draw rfl ?_ | refine RX_skip ?_ | refine RX_gfrz ?_ | refine RX_exit ?_ | refine RX_ret ?_); try (simp only [go_sem, Nat.max_zero, List.isEmpty_cons, Int.reduceToNat, Nat.reducePow, Int.reduceEq, Int.reduceNe, Int.reduceLT, Int.reduceLE, Nat.reduceAdd, Nat.reduceLeDiff, ↓reduceIte, Nat.reduceLT, Nat.reduceMul, Nat.reduceSub, reduceCtorEq, beq_iff_eq, bne_iff_ne, bne_self_eq_false, beq_self_eq_true, beq_true, beq_false, I, B, w, vf4_res, vf4_keep, e13, V.str, gt_iff_lt, ht2, h21, c2, cB, c3, h3, h20, hU, c27, c28, c29, sw30, sw31, hAl, List.length_map, List.length_cons, happ, hj1, hji, hRC, hRC2, hRe, hRt, hj18, hst, hfr, h43, h44, g43, g44, h14, n19, n1i, n1n, hall, htk, vCellsEq, vCellEq, ibne, ibeq, vStr, Bool.not_true]))))
end Go.Proofs.Ytjhfakhmflemmaa
