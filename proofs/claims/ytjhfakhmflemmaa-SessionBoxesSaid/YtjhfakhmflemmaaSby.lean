/- Boxes as parts, and reading them, on the machine. Conditions: none. -/
import Derived.Test.YtjhfakhmflemmaaVd
import Derived.Test.YtjhfakhmflemmaaSbx
set_option linter.unusedSimpArgs false
namespace Go.Proofs.Ytjhfakhmflemmaa
open Go.VM
/-- a part -/
def pT (n : Int) (ts : List Tm) : Tm := .mk 3 0 (nT n :: ts)
theorem nT_row (n : Int) : (nT n).row = [I 1, I n, .sl []] := by simp [nT, Tm.row_mk]
theorem e40 (n : Int) (ts : List Tm) (h : ts.length < 1000000) : CV VP 70 [.d (I n), .d (.sl (ts.map Tm.row))] [] = some ⟨(pT n ts).ag, [], [], 0⟩ := by
  have h1 := Tm.rows3 (nT n :: ts) (by simp only [List.length_cons]; omega)
  have h2 := Tm.rows3 ts (by omega)
  have h33 := e33 h1
  have hra : (ts.map Tm.row).all (fun r => r.length == 3) = true := h2.2
  have hl : ts.length ≤ 4294967296 := by omega
  have hl2 : ts.length + 1 ≤ 4294967296 := by omega
  simp only [pT, Tm.ag, Tm.op_mk, Tm.val_mk, Tm.args_mk, List.map_cons, nT_row] at h33 ⊢
  refine CV_run (vf := vf70) rfl rfl ?_
  rw [vf70_start]
  (repeat (first
    | refine RX_seq ?_
    | refine RX_block ?_
    | ((first | refine RX_reg ?_ | refine RX_cond' ?_ | refine RX_draw0 ?_ | refine RX_draw rfl ?_ | refine RX_skip ?_ | refine RX_gfrz ?_ | refine RX_exit ?_ | refine RX_ret ?_); try (simp only [go_sem, Nat.max_zero, List.isEmpty_cons, Int.reduceToNat, Nat.reducePow, Int.reduceEq, Int.reduceNe, Int.reduceLT, Int.reduceLE, Nat.reduceAdd, Nat.reduceLeDiff, ↓reduceIte, Nat.reduceLT, Nat.reduceMul, Nat.reduceSub, reduceCtorEq, frzLoc, rowCells, vAppM, beq_iff_eq, bne_iff_ne, bne_self_eq_false, beq_self_eq_true, beq_true, beq_false, I, B, w, vf70_res, vf70_keep, e75, h33, hra, hl, hl2, List.length_map, Nat.add_comm 1]))))
/-- the numbers of a box -/
def bqN (f0 h0 a0 f1 h1 a1 f2 h2 a2 f3 h3 a3 p0 p1 l0 l1 r0 r1 : Int) : List Tm :=
  [nT f0, nT (w h0), nT (w a0), nT f1, nT (w h1), nT (w a1), nT f2, nT (w h2), nT (w a2), nT f3, nT (w h3), nT (w a3), nT p0, nT p1, nT l0, nT l1, nT r0, nT r1]
def byT (t : List UInt8) : List Tm := t.map fun c => nT (c.toNat : Int)
set_option maxHeartbeats 4000000 in
theorem e64 (f0 h0 a0 f1 h1 a1 f2 h2 a2 f3 h3 a3 p0 p1 l0 l1 r0 r1 : Int) (t : ByteArray) (ht : t.size < 100000) :
    CV VP 29 [.agg [.d (I f0), .d (U h0), .d (U a0), .d (I f1), .d (U h1), .d (U a1), .d (I f2), .d (U h2), .d (U a2), .d (I f3), .d (U h3), .d (U a3), .d (I p0), .d (I p1), .d (I l0), .d (I l1), .d (I r0), .d (I r1)], .d (.lit (.string t))] [] =
      some ⟨(pT 11 (bqN f0 h0 a0 f1 h1 a1 f2 h2 a2 f3 h3 a3 p0 p1 l0 l1 r0 r1 ++ byT t.data.toList)).ag, [], [], 0⟩ := by
  have w0 : IntKind.i64.wrap (0 + 1) = 1 := rfl
  have w1 : IntKind.i64.wrap (1 + 1) = 2 := rfl
  have w2 : IntKind.i64.wrap (2 + 1) = 3 := rfl
  have w3 : IntKind.i64.wrap (3 + 1) = 4 := rfl
  generalize hN : bqN f0 h0 a0 f1 h1 a1 f2 h2 a2 f3 h3 a3 p0 p1 l0 l1 r0 r1 = N
  have hNr : N.map Tm.row = [[I 1, I f0, .sl []], [I 1, I (w h0), .sl []], [I 1, I (w a0), .sl []], [I 1, I f1, .sl []], [I 1, I (w h1), .sl []], [I 1, I (w a1), .sl []], [I 1, I f2, .sl []], [I 1, I (w h2), .sl []], [I 1, I (w a2), .sl []], [I 1, I f3, .sl []], [I 1, I (w h3), .sl []], [I 1, I (w a3), .sl []], [I 1, I p0, .sl []], [I 1, I p1, .sl []], [I 1, I l0, .sl []], [I 1, I l1, .sl []], [I 1, I r0, .sl []], [I 1, I r1, .sl []]] := by
    rw [← hN]; simp only [bqN, List.map_cons, List.map_nil, nT_row]
  have hNl : N.length = 18 := by rw [← hN]; rfl
  refine CV_run (vf := vf29) rfl rfl ?_
  rw [vf29_start]
  (repeat' (first
    | refine RX_seq ?_
    | refine RX_block ?_
    | ((first | refine RX_reg ?_ | refine RX_cond' ?_ | refine RX_draw0 ?_ | refine RX_draw rfl ?_ | refine RX_skip ?_ | refine RX_gfrz ?_ | refine RX_exit ?_ | refine RX_ret ?_); try (simp only [go_sem, Nat.max_zero, List.isEmpty_cons, Int.reduceToNat, Nat.reducePow, Int.reduceEq, Int.reduceNe, Int.reduceLT, Int.reduceLE, Nat.reduceAdd, Nat.reduceLeDiff, ↓reduceIte, Nat.reduceLT, Nat.reduceMul, Nat.reduceSub, reduceCtorEq, frzLoc, rowCells, vAppM, bne_self_eq_false, beq_self_eq_true, beq_true, beq_false, I, B, w, ibeq, ibne, bbeq, decide_eq_false_iff_not, decide_not, Bool.not_not, Decidable.not_not, Bool.not_eq_eq_eq_not, gt_iff_lt, ge_iff_le, and_false, false_and, or_self, and_self, vf29_res, vf29_keep, e75, *]))
    | (refine ite_ngo (fun _ => ?_) (fun _ => ?_) <;> try (simp only [go_sem, Nat.max_zero, List.isEmpty_cons, Int.reduceToNat, Nat.reducePow, Int.reduceEq, Int.reduceNe, Int.reduceLT, Int.reduceLE, Nat.reduceAdd, Nat.reduceLeDiff, ↓reduceIte, Nat.reduceLT, Nat.reduceMul, Nat.reduceSub, reduceCtorEq, frzLoc, rowCells, vAppM, bne_self_eq_false, beq_self_eq_true, beq_true, beq_false, I, B, w, ibeq, ibne, bbeq, decide_eq_false_iff_not, decide_not, Bool.not_not, Decidable.not_not, Bool.not_eq_eq_eq_not, gt_iff_lt, ge_iff_le, and_false, false_and, or_self, and_self, vf29_res, vf29_keep, e75, *]))
    | (refine ite_go (fun _ => ?_) (fun _ => ?_) <;> try (simp only [go_sem, Nat.max_zero, List.isEmpty_cons, Int.reduceToNat, Nat.reducePow, Int.reduceEq, Int.reduceNe, Int.reduceLT, Int.reduceLE, Nat.reduceAdd, Nat.reduceLeDiff, ↓reduceIte, Nat.reduceLT, Nat.reduceMul, Nat.reduceSub, reduceCtorEq, frzLoc, rowCells, vAppM, bne_self_eq_false, beq_self_eq_true, beq_true, beq_false, I, B, w, ibeq, ibne, bbeq, decide_eq_false_iff_not, decide_not, Bool.not_not, Decidable.not_not, Bool.not_eq_eq_eq_not, gt_iff_lt, ge_iff_le, and_false, false_and, or_self, and_self, vf29_res, vf29_keep, e75, *]))
    | (refine RL_head ?_; simp only [go_sem, Nat.max_zero, List.isEmpty_cons, Int.reduceToNat, Nat.reducePow, Int.reduceEq, Int.reduceNe, Int.reduceLT, Int.reduceLE, Nat.reduceAdd, Nat.reduceLeDiff, ↓reduceIte, Nat.reduceLT, Nat.reduceMul, Nat.reduceSub, reduceCtorEq, frzLoc, rowCells, vAppM, bne_self_eq_false, beq_self_eq_true, beq_true, beq_false, I, B, w, ibeq, ibne, bbeq, decide_eq_false_iff_not, decide_not, Bool.not_not, Decidable.not_not, Bool.not_eq_eq_eq_not, gt_iff_lt, ge_iff_le, and_false, false_and, or_self, and_self, vf29_res, vf29_keep, e75, *, St.head, forget, vf29K0, RLK_some]; refine vf29L0_go ?_)
    | refine RX_loop ?_))
  refine (?_ : RL VP vf29K1 vf29L1 2 _ _)
  refine RL_ind (fun m st => ∃ (i g gn : Nat) (rows : List (List D)), i + m = t.size ∧ rows = (N ++ byT (t.data.toList.take i)).map Tm.row ∧
    At vf29K1 2 st ((.any :: .d (.lit (.string t)) :: .any :: .any :: .ptr 1 0 :: .sl 3 rows (.own 0 g) :: .any :: .any :: .d (I (i : Nat)) :: .any :: .any :: .any :: .any :: .any :: .any :: .any :: .any :: .any :: .any :: .any :: .any :: .any :: .any :: .any :: .any :: .any :: .any :: .any :: .any :: .any :: .any :: .any :: .any :: .any :: .any :: .any :: .any :: .any :: .any :: .any :: .any :: .any :: .any :: .any :: .any :: .any :: .any :: .any :: .any :: .any :: .any :: .any :: .any :: .any :: .any :: .any :: .any :: .any :: .any :: .any :: .any :: .any :: .any :: .any :: .any :: .any :: .any :: .any :: .any :: .any :: .any :: .any :: .any :: .any :: .any :: .any :: .any :: .any :: .any :: []))
      [[.d (I f0), .d (U h0), .d (U a0), .d (I f1), .d (U h1), .d (U a1), .d (I f2), .d (U h2), .d (U a2), .d (I f3), .d (U h3), .d (U a3), .d (I p0), .d (I p1), .d (I l0), .d (I l1), .d (I r0), .d (I r1)], [.d (I 0), .d (I 0), .nil]] [g] gn 0) ?_ t.size _
    ⟨0, _, _, _, Nat.zero_add _, ?_, rfl, rfl, rfl, rfl, rfl, rfl⟩
  case refine_2 => simp only [List.take_zero, byT, List.map_nil, List.append_nil]; exact hNr.symm
  rintro m st ⟨i, g, gn, rows, hi, hrows, hat⟩ ih
  refine RL_at hat rfl rfl (vf29L1_go ?_)
  clear hat
  have hsz : t.data.toList.length = t.size := Array.length_toList
  have hrl : rows.length ≤ 200000 := by rw [hrows, List.length_map, List.length_append, hNl, byT, List.length_map, List.length_take]; omega
  cases m with
  | zero =>
    have h1 : ¬ i < t.size := by omega
    rw [List.take_of_length_le (by omega)] at hrows
    have h40 := e40 11 (N ++ byT t.data.toList) (by rw [List.length_append, hNl, byT, List.length_map]; omega)
    rw [← hrows] at h40
    simp only [pT, Tm.ag, Tm.op_mk, Tm.val_mk, Tm.args_mk] at h40 ⊢
    generalize N ++ byT t.data.toList = A at *
    (repeat (first
    | refine RX_seq ?_
    | refine RX_block ?_
    | ((first | refine RX_reg ?_ | refine RX_cond' ?_ | refine RX_draw0 ?_ | refine RX_draw rfl ?_ | refine RX_skip ?_ | refine RX_gfrz ?_ | refine RX_exit ?_ | refine RX_ret ?_); try (simp only [go_sem, Nat.max_zero, List.isEmpty_cons, Int.reduceToNat, Nat.reducePow, Int.reduceEq, Int.reduceNe, Int.reduceLT, Int.reduceLE, Nat.reduceAdd, Nat.reduceLeDiff, ↓reduceIte, Nat.reduceLT, Nat.reduceMul, Nat.reduceSub, reduceCtorEq, frzLoc, rowCells, vAppM, beq_iff_eq, bne_iff_ne, bne_self_eq_false, beq_self_eq_true, beq_true, beq_false, I, B, w, vf29_res, vf29_keep, h1, h40, V.str]))))
  | succ m =>
    have h1 : i < t.size := by omega
    have hb : t[i]? = some t[i] := getElem?_pos t i h1
    have hb2 : t.data.toList[i]? = some t[i] := by rw [Array.getElem?_toList]; exact Array.getElem?_eq_getElem h1
    generalize t[i] = b at *
    have wb : IntKind.i64.wrap (b.toNat : Int) = (b.toNat : Int) := w_in (by omega) (by have := b.toNat_lt; omega)
    have hwi := w_nat (i := i) (by omega)
    have hr1 : rows.length + 1 ≤ 4294967296 := by omega
    (repeat (first
    | refine RX_seq ?_
    | refine RX_block ?_
    | ((first | refine RX_reg ?_ | refine RX_cond' ?_ | refine RX_draw0 ?_ | refine RX_draw rfl ?_ | refine RX_skip ?_ | refine RX_gfrz ?_ | refine RX_exit ?_ | refine RX_ret ?_); try (simp only [go_sem, Nat.max_zero, List.isEmpty_cons, Int.reduceToNat, Nat.reducePow, Int.reduceEq, Int.reduceNe, Int.reduceLT, Int.reduceLE, Nat.reduceAdd, Nat.reduceLeDiff, ↓reduceIte, Nat.reduceLT, Nat.reduceMul, Nat.reduceSub, reduceCtorEq, frzLoc, rowCells, vAppM, beq_iff_eq, bne_iff_ne, bne_self_eq_false, beq_self_eq_true, beq_true, beq_false, I, B, w, vf29_res, vf29_keep, h1, hb, wb, V.str, e75, hwi, hr1]))))
    refine ih m _ (Nat.lt_succ_self m) ⟨i + 1, _, _, _, by omega, ?_, rfl, rfl, rfl, rfl, rfl, rfl⟩
    rw [hrows, List.take_add_one, hb2]
    simp [byT, nT_row]
end Go.Proofs.Ytjhfakhmflemmaa

set_option maxRecDepth 100000
namespace Go.Proofs.Ytjhfakhmflemmaa
open Go.VM
theorem strRows_len (t : ByteArray) : (strRows t).length = t.size := by simp [strRows]
theorem strRows_get {t : ByteArray} {i : Nat} {b : UInt8} (h : t.data.toList[i]? = some b) : (strRows t)[i]? = some [.lit (.int .u8 (b.toNat : Int))] := by
  rw [Array.getElem?_toList] at h
  simp [strRows, h]
set_option maxHeartbeats 4000000 in
theorem e63 (f0 h0 a0 f1 h1 a1 f2 h2 a2 f3 h3 a3 p0 p1 l0 l1 r0 r1 : Int) (t : ByteArray) (ht : t.size < 100000) :
    CV VP 27 [.agg [.d (I f0), .d (U h0), .d (U a0), .d (I f1), .d (U h1), .d (U a1), .d (I f2), .d (U h2), .d (U a2), .d (I f3), .d (U h3), .d (U a3), .d (I p0), .d (I p1), .d (I l0), .d (I l1), .d (I r0), .d (I r1)], .d (.lit (.string t))] [] =
      some ⟨(pT 11 (bqN f0 h0 a0 f1 h1 a1 f2 h2 a2 f3 h3 a3 p0 p1 l0 l1 r0 r1 ++ byT t.data.toList)).ag, [], [], 0⟩ := by
  have w0 : IntKind.i64.wrap (0 + 1) = 1 := rfl
  have w1 : IntKind.i64.wrap (1 + 1) = 2 := rfl
  have w2 : IntKind.i64.wrap (2 + 1) = 3 := rfl
  have w3 : IntKind.i64.wrap (3 + 1) = 4 := rfl
  have w4 : IntKind.i64.wrap (4 + 1) = 5 := rfl
  have w5 : IntKind.i64.wrap (5 + 1) = 6 := rfl
  have hsl := strRows_len t
  have ht2 : t.size ≤ 16777216 := by omega
  generalize hN : bqN f0 h0 a0 f1 h1 a1 f2 h2 a2 f3 h3 a3 p0 p1 l0 l1 r0 r1 = N
  have hNr : N.map Tm.row = [[I 1, I f0, .sl []], [I 1, I (w h0), .sl []], [I 1, I (w a0), .sl []], [I 1, I f1, .sl []], [I 1, I (w h1), .sl []], [I 1, I (w a1), .sl []], [I 1, I f2, .sl []], [I 1, I (w h2), .sl []], [I 1, I (w a2), .sl []], [I 1, I f3, .sl []], [I 1, I (w h3), .sl []], [I 1, I (w a3), .sl []], [I 1, I p0, .sl []], [I 1, I p1, .sl []], [I 1, I l0, .sl []], [I 1, I l1, .sl []], [I 1, I r0, .sl []], [I 1, I r1, .sl []]] := by
    rw [← hN]; simp only [bqN, List.map_cons, List.map_nil, nT_row]
  have hNl : N.length = 18 := by rw [← hN]; rfl
  refine CV_run (vf := vf27) rfl rfl ?_
  rw [vf27_start]
  (repeat' (first
    | refine RX_seq ?_
    | refine RX_block ?_
    | ((first | refine RX_reg ?_ | refine RX_cond' ?_ | refine RX_draw0 ?_ | refine RX_draw rfl ?_ | refine RX_skip ?_ | refine RX_gfrz ?_ | refine RX_exit ?_ | refine RX_ret ?_); try (simp only [go_sem, Nat.max_zero, List.isEmpty_cons, Int.reduceToNat, Nat.reducePow, Int.reduceEq, Int.reduceNe, Int.reduceLT, Int.reduceLE, Nat.reduceAdd, Nat.reduceLeDiff, ↓reduceIte, Nat.reduceLT, Nat.reduceMul, Nat.reduceSub, reduceCtorEq, frzLoc, rowCells, vAppM, bne_self_eq_false, beq_self_eq_true, beq_true, beq_false, I, B, w, ibeq, ibne, bbeq, decide_eq_false_iff_not, decide_not, Bool.not_not, Decidable.not_not, Bool.not_eq_eq_eq_not, gt_iff_lt, ge_iff_le, and_false, false_and, or_self, and_self, vf27_res, vf27_keep, e72, V.str, hsl, ht2, *]))
    | (refine ite_ngo (fun _ => ?_) (fun _ => ?_) <;> try (simp only [go_sem, Nat.max_zero, List.isEmpty_cons, Int.reduceToNat, Nat.reducePow, Int.reduceEq, Int.reduceNe, Int.reduceLT, Int.reduceLE, Nat.reduceAdd, Nat.reduceLeDiff, ↓reduceIte, Nat.reduceLT, Nat.reduceMul, Nat.reduceSub, reduceCtorEq, frzLoc, rowCells, vAppM, bne_self_eq_false, beq_self_eq_true, beq_true, beq_false, I, B, w, ibeq, ibne, bbeq, decide_eq_false_iff_not, decide_not, Bool.not_not, Decidable.not_not, Bool.not_eq_eq_eq_not, gt_iff_lt, ge_iff_le, and_false, false_and, or_self, and_self, vf27_res, vf27_keep, e72, V.str, hsl, ht2, *]))
    | (refine ite_go (fun _ => ?_) (fun _ => ?_) <;> try (simp only [go_sem, Nat.max_zero, List.isEmpty_cons, Int.reduceToNat, Nat.reducePow, Int.reduceEq, Int.reduceNe, Int.reduceLT, Int.reduceLE, Nat.reduceAdd, Nat.reduceLeDiff, ↓reduceIte, Nat.reduceLT, Nat.reduceMul, Nat.reduceSub, reduceCtorEq, frzLoc, rowCells, vAppM, bne_self_eq_false, beq_self_eq_true, beq_true, beq_false, I, B, w, ibeq, ibne, bbeq, decide_eq_false_iff_not, decide_not, Bool.not_not, Decidable.not_not, Bool.not_eq_eq_eq_not, gt_iff_lt, ge_iff_le, and_false, false_and, or_self, and_self, vf27_res, vf27_keep, e72, V.str, hsl, ht2, *]))
    | (refine RL_head ?_; simp only [go_sem, Nat.max_zero, List.isEmpty_cons, Int.reduceToNat, Nat.reducePow, Int.reduceEq, Int.reduceNe, Int.reduceLT, Int.reduceLE, Nat.reduceAdd, Nat.reduceLeDiff, ↓reduceIte, Nat.reduceLT, Nat.reduceMul, Nat.reduceSub, reduceCtorEq, frzLoc, rowCells, vAppM, bne_self_eq_false, beq_self_eq_true, beq_true, beq_false, I, B, w, ibeq, ibne, bbeq, decide_eq_false_iff_not, decide_not, Bool.not_not, Decidable.not_not, Bool.not_eq_eq_eq_not, gt_iff_lt, ge_iff_le, and_false, false_and, or_self, and_self, vf27_res, vf27_keep, e72, V.str, hsl, ht2, *, St.head, forget, vf27K0, RLK_some]; refine vf27L0_go ?_)
    | (refine RL_head ?_; simp only [go_sem, Nat.max_zero, List.isEmpty_cons, Int.reduceToNat, Nat.reducePow, Int.reduceEq, Int.reduceNe, Int.reduceLT, Int.reduceLE, Nat.reduceAdd, Nat.reduceLeDiff, ↓reduceIte, Nat.reduceLT, Nat.reduceMul, Nat.reduceSub, reduceCtorEq, frzLoc, rowCells, vAppM, bne_self_eq_false, beq_self_eq_true, beq_true, beq_false, I, B, w, ibeq, ibne, bbeq, decide_eq_false_iff_not, decide_not, Bool.not_not, Decidable.not_not, Bool.not_eq_eq_eq_not, gt_iff_lt, ge_iff_le, and_false, false_and, or_self, and_self, vf27_res, vf27_keep, e72, V.str, hsl, ht2, *, St.head, forget, vf27K1, RLK_some]; refine vf27L1_go ?_)
    | refine RX_loop ?_))
  refine (?_ : RL VP vf27K2 vf27L2 2 _ _)
  refine RL_ind (fun m st => ∃ (i g gn : Nat) (rows : List (List D)), i + m = t.size ∧ rows = (N ++ byT (t.data.toList.take i)).map Tm.row ∧
    At vf27K2 2 st ((.any :: .any :: .any :: .any :: .ptr 1 0 :: .sl 3 rows (.own 0 g) :: .any :: .any :: .any :: .any :: .any :: .any :: .any :: .any :: .any :: .any :: .any :: .any :: .any :: .any :: .any :: .any :: .any :: .any :: .any :: .any :: .any :: .any :: .any :: .any :: .any :: .any :: .any :: .any :: .any :: .any :: .any :: .any :: .any :: .any :: .any :: .any :: .any :: .any :: .any :: .any :: .any :: .any :: .any :: .any :: .any :: .any :: .any :: .any :: .any :: .any :: .any :: .any :: .any :: .any :: .any :: .any :: .any :: .any :: .any :: .any :: .any :: .any :: .any :: .any :: .d (.sl (strRows t)) :: .d (I (t.size : Nat)) :: .d (I (i : Nat)) :: .any :: .any :: .any :: .any :: .any :: .any :: .any :: .any :: .any :: .any :: .any :: .any :: []))
      [[.d (I f0), .d (U h0), .d (U a0), .d (I f1), .d (U h1), .d (U a1), .d (I f2), .d (U h2), .d (U a2), .d (I f3), .d (U h3), .d (U a3), .d (I p0), .d (I p1), .d (I l0), .d (I l1), .d (I r0), .d (I r1)], [.d (I 0), .d (I 0), .nil]] [g] gn 0) ?_ t.size _
    ⟨0, _, _, _, Nat.zero_add _, ?_, rfl, rfl, rfl, rfl, rfl, rfl⟩
  case refine_2 => simp only [List.take_zero, byT, List.map_nil, List.append_nil]; exact hNr.symm
  rintro m st ⟨i, g, gn, rows, hi, hrows, hat⟩ ih
  refine RL_at hat rfl rfl (vf27L2_go ?_)
  clear hat
  have hsz : t.data.toList.length = t.size := Array.length_toList
  have hrl : rows.length ≤ 200000 := by rw [hrows, List.length_map, List.length_append, hNl, byT, List.length_map, List.length_take]; omega
  cases m with
  | zero =>
    have h1 : ¬ i < t.size := by omega
    rw [List.take_of_length_le (by omega)] at hrows
    have h40 := e24 11 (N ++ byT t.data.toList) (by rw [List.length_append, hNl, byT, List.length_map]; omega)
    rw [← hrows] at h40
    simp only [pT, nT, Tm.ag, Tm.op_mk, Tm.val_mk, Tm.args_mk] at h40 ⊢
    generalize N ++ byT t.data.toList = A at *
    clear ih
    (repeat (first
    | refine RX_seq ?_
    | refine RX_block ?_
    | ((first | refine RX_reg ?_ | refine RX_cond' ?_ | refine RX_draw0 ?_ | refine RX_draw rfl ?_ | refine RX_skip ?_ | refine RX_gfrz ?_ | refine RX_exit ?_ | refine RX_ret ?_); try (simp only [go_sem, Nat.max_zero, List.isEmpty_cons, Int.reduceToNat, Nat.reducePow, Int.reduceEq, Int.reduceNe, Int.reduceLT, Int.reduceLE, Nat.reduceAdd, Nat.reduceLeDiff, ↓reduceIte, Nat.reduceLT, Nat.reduceMul, Nat.reduceSub, reduceCtorEq, frzLoc, rowCells, vAppM, beq_iff_eq, bne_iff_ne, bne_self_eq_false, beq_self_eq_true, beq_true, beq_false, I, B, w, vf27_res, vf27_keep, h1, h40]))))
  | succ m =>
    have h1 : i < t.size := by omega
    have hb2 : t.data.toList[i]? = some t[i] := by rw [Array.getElem?_toList]; exact Array.getElem?_eq_getElem h1
    generalize t[i] = b at *
    have hb := strRows_get hb2
    have wb : IntKind.i64.wrap (b.toNat : Int) = (b.toNat : Int) := w_in (by omega) (by have := b.toNat_lt; omega)
    have hwi := w_nat (i := i) (by omega)
    have hr1 : rows.length + 1 ≤ 4294967296 := by omega
    (repeat (first
    | refine RX_seq ?_
    | refine RX_block ?_
    | ((first | refine RX_reg ?_ | refine RX_cond' ?_ | refine RX_draw0 ?_ | refine RX_draw rfl ?_ | refine RX_skip ?_ | refine RX_gfrz ?_ | refine RX_exit ?_ | refine RX_ret ?_); try (simp only [go_sem, Nat.max_zero, List.isEmpty_cons, Int.reduceToNat, Nat.reducePow, Int.reduceEq, Int.reduceNe, Int.reduceLT, Int.reduceLE, Nat.reduceAdd, Nat.reduceLeDiff, ↓reduceIte, Nat.reduceLT, Nat.reduceMul, Nat.reduceSub, reduceCtorEq, frzLoc, rowCells, vAppM, beq_iff_eq, bne_iff_ne, bne_self_eq_false, beq_self_eq_true, beq_true, beq_false, I, B, w, vf27_res, vf27_keep, h1, hb, wb, hsl, e72, hwi, hr1]))))
    refine ih m _ (Nat.lt_succ_self m) ⟨i + 1, _, _, _, by omega, ?_, rfl, rfl, rfl, rfl, rfl, rfl⟩
    rw [hrows, List.take_add_one, hb2]
    simp [byT, nT_row]
abbrev b18 (f0 h0 a0 f1 h1 a1 f2 h2 a2 f3 h3 a3 p0 p1 l0 l1 r0 r1 : Int) : V := .agg [.d (I f0), .d (U h0), .d (U a0), .d (I f1), .d (U h1), .d (U a1), .d (I f2), .d (U h2), .d (U a2), .d (I f3), .d (U h3), .d (U a3), .d (I p0), .d (I p1), .d (I l0), .d (I l1), .d (I r0), .d (I r1)]
theorem sw30 (f0 h0 a0 f1 h1 a1 f2 h2 a2 f3 h3 a3 p0 p1 l0 l1 r0 r1 : Int) : CV VP 30 [b18 f0 h0 a0 f1 h1 a1 f2 h2 a2 f3 h3 a3 p0 p1 l0 l1 r0 r1] [] = some ⟨b18 f2 h2 a2 f3 h3 a3 f0 h0 a0 f1 h1 a1 p0 p1 r0 r1 l0 l1, [], [], 0⟩ := by
  refine CV_run (vf := vf30) rfl rfl ?_
  rw [vf30_start]
  (repeat (first
    | refine RX_seq ?_
    | refine RX_block ?_
    | ((first | refine RX_reg ?_ | refine RX_cond' ?_ | refine RX_draw0 ?_ | refine RX_draw rfl ?_ | refine RX_skip ?_ | refine RX_gfrz ?_ | refine RX_exit ?_ | refine RX_ret ?_); try (simp only [go_sem, Nat.max_zero, List.isEmpty_cons, Int.reduceToNat, Nat.reducePow, Int.reduceEq, Int.reduceNe, Int.reduceLT, Int.reduceLE, Nat.reduceAdd, Nat.reduceLeDiff, ↓reduceIte, Nat.reduceLT, Nat.reduceMul, Nat.reduceSub, reduceCtorEq, frzLoc, rowCells, vAppM, beq_iff_eq, bne_iff_ne, bne_self_eq_false, beq_self_eq_true, beq_true, beq_false, I, B, w, vf30_res, vf30_keep]))))
theorem sw31 (f0 h0 a0 f1 h1 a1 f2 h2 a2 f3 h3 a3 p0 p1 l0 l1 r0 r1 : Int) : CV VP 31 [b18 f0 h0 a0 f1 h1 a1 f2 h2 a2 f3 h3 a3 p0 p1 l0 l1 r0 r1] [] = some ⟨b18 f2 h2 a2 f3 h3 a3 f0 h0 a0 f1 h1 a1 p0 p1 r0 r1 l0 l1, [], [], 0⟩ := by
  refine CV_run (vf := vf31) rfl rfl ?_
  rw [vf31_start]
  (repeat (first
    | refine RX_seq ?_
    | refine RX_block ?_
    | ((first | refine RX_reg ?_ | refine RX_cond' ?_ | refine RX_draw0 ?_ | refine RX_draw rfl ?_ | refine RX_skip ?_ | refine RX_gfrz ?_ | refine RX_exit ?_ | refine RX_ret ?_); try (simp only [go_sem, Nat.max_zero, List.isEmpty_cons, Int.reduceToNat, Nat.reducePow, Int.reduceEq, Int.reduceNe, Int.reduceLT, Int.reduceLE, Nat.reduceAdd, Nat.reduceLeDiff, ↓reduceIte, Nat.reduceLT, Nat.reduceMul, Nat.reduceSub, reduceCtorEq, frzLoc, rowCells, vAppM, beq_iff_eq, bne_iff_ne, bne_self_eq_false, beq_self_eq_true, beq_true, beq_false, I, B, w, vf31_res, vf31_keep]))))
end Go.Proofs.Ytjhfakhmflemmaa

namespace Go.Proofs.Ytjhfakhmflemmaa
open Go.VM
theorem e106g {rows : List (List D)} {n : Nat} {o v x : D} (hn : n < 1000000) (hl : n < rows.length) (hr : rows[n]? = some [o, v, x]) (id : Nat) : ∀ bl, CtxOk bl id →
    CV VP 89 [.ptr id 0] (gx bl id [.d (.sl rows), .d (I (n : Nat)), .d (B false)] []) = some ⟨.agg [.d o, .d v, .d x], gx bl id [.d (.sl rows), .d (I ((n + 1 : Nat) : Int)), .d (B false)] [], [], 0⟩ := by
  intro bl h
  have hid := h.lt
  have h1 : ¬ (rows.length : Int) ≤ (n : Int) := by omega
  have hwi := w_nat (i := n) (by omega)
  have hwd : IntKind.i64.wrap (((n + 1 : Nat) : Int) - 1) = (n : Int) := by rw [w_in (by omega) (by omega)]; omega
  refine CV_run (vf := vf89) rfl rfl ?_
  rw [vf89_start]
  (repeat (first
    | refine RX_seq ?_
    | refine RX_block ?_
    | ((first | refine RX_reg ?_ | refine RX_cond' ?_ | refine RX_draw0 ?_ | refine RX_draw rfl ?_ | refine RX_skip ?_ | refine RX_gfrz ?_ | refine RX_exit ?_ | refine RX_ret ?_); try (simp only [go_sem, Nat.max_zero, List.isEmpty_cons, Int.reduceToNat, Nat.reducePow, Int.reduceEq, Int.reduceNe, Int.reduceLT, Int.reduceLE, Nat.reduceAdd, Nat.reduceLeDiff, ↓reduceIte, Nat.reduceLT, Nat.reduceMul, Nat.reduceSub, reduceCtorEq, frzLoc, rowCells, vAppM, beq_iff_eq, bne_iff_ne, bne_self_eq_false, beq_self_eq_true, beq_true, beq_false, I, B, w, vf89_res, vf89_keep, gx_len, gx_app, gx_get h, gx_own0, gx_own, gx_set h, gx_setOwn0, gx_setOwn, gx_er h, gx_take, gx_all0 h, gx_all h, ge_iff_le, hid, h1, hwi, hwd, hl, hr, Nat.add_right_cancel_iff, Nat.lt_irrefl, cx_nlt, Nat.not_lt_zero, Nat.ne_of_lt hid, Nat.le_add_right]))))
  done
theorem e106b {rows : List (List D)} {n : Int} (id : Nat) : ∀ bl, CtxOk bl id →
    CV VP 89 [.ptr id 0] (gx bl id [.d (.sl rows), .d (I n), .d (B true)] []) = some ⟨.agg [.d (I 0), .d (I 0), .d (.sl [])], gx bl id [.d (.sl rows), .d (I n), .d (B true)] [], [], 0⟩ := by
  intro bl h
  have hid := h.lt
  refine CV_run (vf := vf89) rfl rfl ?_
  rw [vf89_start]
  (repeat (first
    | refine RX_seq ?_
    | refine RX_block ?_
    | ((first | refine RX_reg ?_ | refine RX_cond' ?_ | refine RX_draw0 ?_ | refine RX_draw rfl ?_ | refine RX_skip ?_ | refine RX_gfrz ?_ | refine RX_exit ?_ | refine RX_ret ?_); try (simp only [go_sem, Nat.max_zero, List.isEmpty_cons, Int.reduceToNat, Nat.reducePow, Int.reduceEq, Int.reduceNe, Int.reduceLT, Int.reduceLE, Nat.reduceAdd, Nat.reduceLeDiff, ↓reduceIte, Nat.reduceLT, Nat.reduceMul, Nat.reduceSub, reduceCtorEq, frzLoc, rowCells, vAppM, beq_iff_eq, bne_iff_ne, bne_self_eq_false, beq_self_eq_true, beq_true, beq_false, I, B, w, vf89_res, vf89_keep, gx_len, gx_app, gx_get h, gx_own0, gx_own, gx_set h, gx_setOwn0, gx_setOwn, gx_er h, gx_take, gx_all0 h, gx_all h, ge_iff_le, hid, Nat.add_right_cancel_iff, Nat.lt_irrefl, cx_nlt, Nat.not_lt_zero, Nat.ne_of_lt hid, Nat.le_add_right]))))
  done
theorem e87g {rows : List (List D)} {n : Nat} {o v : Int} {x : D} (hn : n < 1000000) (hl : n < rows.length) (hr : rows[n]? = some [I o, I v, x]) (id : Nat) : ∀ bl, CtxOk bl id →
    CV VP 60 [.ptr id 0] (gx bl id [.d (.sl rows), .d (I (n : Nat)), .d (B false)] []) = some ⟨.d (I v), gx bl id [.d (.sl rows), .d (I ((n + 1 : Nat) : Int)), .d (B (decide (¬ o = 1)))] [], [], 0⟩ := by
  intro bl h
  have hid := h.lt
  have hne : ¬ bl.length = 0 := by omega
  have h106 := e106g hn hl hr id bl h
  clear hl hr
  refine CV_run (vf := vf60) rfl rfl ?_
  rw [vf60_start]
  by_cases ho : o = 1
  · (repeat (first
    | refine RX_seq ?_
    | refine RX_block ?_
    | ((first | refine RX_reg ?_ | refine RX_cond' ?_ | refine RX_draw0 ?_ | refine RX_draw rfl ?_ | refine RX_skip ?_ | refine RX_gfrz ?_ | refine RX_exit ?_ | refine RX_ret ?_); try (simp only [go_sem, Nat.max_zero, List.isEmpty_cons, Int.reduceToNat, Nat.reducePow, Int.reduceEq, Int.reduceNe, Int.reduceLT, Int.reduceLE, Nat.reduceAdd, Nat.reduceLeDiff, ↓reduceIte, Nat.reduceLT, Nat.reduceMul, Nat.reduceSub, reduceCtorEq, frzLoc, rowCells, vAppM, beq_iff_eq, bne_iff_ne, bne_self_eq_false, beq_self_eq_true, beq_true, beq_false, I, B, w, vf60_res, vf60_keep, gx_len, gx_app, gx_get h, gx_own0, gx_own, gx_set h, gx_setOwn0, gx_setOwn, gx_er h, gx_take, gx_all0 h, gx_all h, hid, Nat.add_right_cancel_iff, Nat.lt_irrefl, cx_nlt, Nat.not_lt_zero, Nat.ne_of_lt hid, Nat.le_add_right, h106, hne, ibne, ho, decide_not]))))
    done
  · (repeat (first
    | refine RX_seq ?_
    | refine RX_block ?_
    | ((first | refine RX_reg ?_ | refine RX_cond' ?_ | refine RX_draw0 ?_ | refine RX_draw rfl ?_ | refine RX_skip ?_ | refine RX_gfrz ?_ | refine RX_exit ?_ | refine RX_ret ?_); try (simp only [go_sem, Nat.max_zero, List.isEmpty_cons, Int.reduceToNat, Nat.reducePow, Int.reduceEq, Int.reduceNe, Int.reduceLT, Int.reduceLE, Nat.reduceAdd, Nat.reduceLeDiff, ↓reduceIte, Nat.reduceLT, Nat.reduceMul, Nat.reduceSub, reduceCtorEq, frzLoc, rowCells, vAppM, beq_iff_eq, bne_iff_ne, bne_self_eq_false, beq_self_eq_true, beq_true, beq_false, I, B, w, vf60_res, vf60_keep, gx_len, gx_app, gx_get h, gx_own0, gx_own, gx_set h, gx_setOwn0, gx_setOwn, gx_er h, gx_take, gx_all0 h, gx_all h, hid, Nat.add_right_cancel_iff, Nat.lt_irrefl, cx_nlt, Nat.not_lt_zero, Nat.ne_of_lt hid, Nat.le_add_right, h106, hne, ibne, ho, decide_not]))))
    done
theorem e87b {rows : List (List D)} {n : Int} (id : Nat) : ∀ bl, CtxOk bl id →
    CV VP 60 [.ptr id 0] (gx bl id [.d (.sl rows), .d (I n), .d (B true)] []) = some ⟨.d (I 0), gx bl id [.d (.sl rows), .d (I n), .d (B true)] [], [], 0⟩ := by
  intro bl h
  have hid := h.lt
  have hne : ¬ bl.length = 0 := by omega
  have h106 := e106b (rows := rows) (n := n) id bl h
  have h01 : ¬ (0 : Int) = 1 := by decide
  refine CV_run (vf := vf60) rfl rfl ?_
  rw [vf60_start]
  (repeat (first
    | refine RX_seq ?_
    | refine RX_block ?_
    | ((first | refine RX_reg ?_ | refine RX_cond' ?_ | refine RX_draw0 ?_ | refine RX_draw rfl ?_ | refine RX_skip ?_ | refine RX_gfrz ?_ | refine RX_exit ?_ | refine RX_ret ?_); try (simp only [go_sem, Nat.max_zero, List.isEmpty_cons, Int.reduceToNat, Nat.reducePow, Int.reduceEq, Int.reduceNe, Int.reduceLT, Int.reduceLE, Nat.reduceAdd, Nat.reduceLeDiff, ↓reduceIte, Nat.reduceLT, Nat.reduceMul, Nat.reduceSub, reduceCtorEq, frzLoc, rowCells, vAppM, beq_iff_eq, bne_iff_ne, bne_self_eq_false, beq_self_eq_true, beq_true, beq_false, I, B, w, vf60_res, vf60_keep, gx_len, gx_app, gx_get h, gx_own0, gx_own, gx_set h, gx_setOwn0, gx_setOwn, gx_er h, gx_take, gx_all0 h, gx_all h, hid, Nat.add_right_cancel_iff, Nat.lt_irrefl, cx_nlt, Nat.not_lt_zero, Nat.ne_of_lt hid, Nat.le_add_right, h106, hne, ibne, h01, decide_not]))))
  done
end Go.Proofs.Ytjhfakhmflemmaa

namespace Go.Proofs.Ytjhfakhmflemmaa
open Go.VM
def Tm.zero : Tm := .mk 0 0 []
def rbB (t : Tm) : Prop := 0 ≤ t.val ∧ t.val ≤ 255
instance (t : Tm) : Decidable (rbB t) := by unfold rbB; infer_instance
/-- a list of terms that may be a box and a template -/
def rbOk (l : List Tm) : Prop := 18 ≤ l.length ∧ l.length ≤ 34 ∧ (∀ t ∈ l, t.op = 1) ∧ (∀ t ∈ l.drop 18, rbB t)
instance (l : List Tm) : Decidable (rbOk l) := by unfold rbOk; infer_instance
def rbN (l : List Tm) (i : Nat) : Int := (l.getD i Tm.zero).val
abbrev uw (n : Int) : Int := IntKind.u64.wrap n
def rbC (l : List Tm) : Int := chk (rbN l 0) (uw (rbN l 1)) (uw (rbN l 2)) (rbN l 3) (uw (rbN l 4)) (uw (rbN l 5)) (rbN l 6) (uw (rbN l 7)) (uw (rbN l 8)) (rbN l 9) (uw (rbN l 10)) (uw (rbN l 11)) (rbN l 12) (rbN l 13) (rbN l 14) (rbN l 15) (rbN l 16) (rbN l 17)
def rbS (l : List Tm) : ByteArray := ⟨((l.drop 18).map fun t => UInt8.ofNat t.val.toNat).toArray⟩
def rb0 : V := .tup [.agg [.d (I 0), .d (U 0), .d (U 0), .d (I 0), .d (U 0), .d (U 0), .d (I 0), .d (U 0), .d (U 0), .d (I 0), .d (U 0), .d (U 0), .d (I 0), .d (I 0), .d (I 0), .d (I 0), .d (I 0), .d (I 0)], .d (.lit (.string ⟨#[]⟩)), .d (B false)]
/-- what a list of terms is as a box and a template -/
def rbV (l : List Tm) : V := if rbOk l ∧ rbC l = 0 then
  .tup [.agg [.d (I (rbN l 0)), .d (U (uw (rbN l 1))), .d (U (uw (rbN l 2))), .d (I (rbN l 3)), .d (U (uw (rbN l 4))), .d (U (uw (rbN l 5))), .d (I (rbN l 6)), .d (U (uw (rbN l 7))), .d (U (uw (rbN l 8))), .d (I (rbN l 9)), .d (U (uw (rbN l 10))), .d (U (uw (rbN l 11))), .d (I (rbN l 12)), .d (I (rbN l 13)), .d (I (rbN l 14)), .d (I (rbN l 15)), .d (I (rbN l 16)), .d (I (rbN l 17))], .d (.lit (.string (rbS l))), .d (B true)] else rb0
theorem rbV_bad {l : List Tm} (h : ¬ rbOk l) : rbV l = rb0 := if_neg fun k => h k.1
def byR (ts : List Tm) : List (List D) := ts.map fun t => [.lit (.int .u8 t.val)]
theorem byR_bytes : ∀ {ts : List Tm}, bytesOf (byR ts) = some (ts.map fun t => UInt8.ofNat t.val.toNat)
  | [] => rfl
  | t :: ts => by
    have ih := byR_bytes (ts := ts)
    simp only [byR, List.map_cons] at ih ⊢
    simp only [bytesOf]
    rw [ih]
theorem e89 (l : List Tm) (i : Nat) (hl : l.length < 1000000) {a b c : Tm} (h0 : l[i]? = some a) (h1 : l[i + 1]? = some b) (h2 : l[i + 2]? = some c) :
    CV VP 73 [.d (.sl (l.map Tm.row)), .d (I (i : Nat))] [] = some ⟨.agg [.d (I a.val), .d (U (uw b.val)), .d (U (uw c.val))], [], [], 0⟩ := by
  have l0 := (List.getElem?_eq_some_iff.1 h0).1
  have l1 := (List.getElem?_eq_some_iff.1 h1).1
  have l2 := (List.getElem?_eq_some_iff.1 h2).1
  have r0 : (l.map Tm.row)[i]? = some [I a.op, I a.val, .sl (a.args.map Tm.row)] := by rw [List.getElem?_map, h0]; simp [Tm.row_eq]
  have r1 : (l.map Tm.row)[i + 1]? = some [I b.op, I b.val, .sl (b.args.map Tm.row)] := by rw [List.getElem?_map, h1]; simp [Tm.row_eq]
  have r2 : (l.map Tm.row)[i + 2]? = some [I c.op, I c.val, .sl (c.args.map Tm.row)] := by rw [List.getElem?_map, h2]; simp [Tm.row_eq]
  have w1 : IntKind.i64.wrap ((i : Int) + 1) = ((i + 1 : Nat) : Int) := w_nat (by omega)
  have w2 : IntKind.i64.wrap ((i : Int) + 2) = ((i + 2 : Nat) : Int) := by rw [w_in (by omega) (by omega)]; omega
  refine CV_run (vf := vf73) rfl rfl ?_
  rw [vf73_start]
  (repeat (first
    | refine RX_seq ?_
    | refine RX_block ?_
    | ((first | refine RX_reg ?_ | refine RX_cond' ?_ | refine RX_draw0 ?_ | refine RX_draw rfl ?_ | refine RX_skip ?_ | refine RX_gfrz ?_ | refine RX_exit ?_ | refine RX_ret ?_); try (simp only [go_sem, Nat.max_zero, List.isEmpty_cons, Int.reduceToNat, Nat.reducePow, Int.reduceEq, Int.reduceNe, Int.reduceLT, Int.reduceLE, Nat.reduceAdd, Nat.reduceLeDiff, ↓reduceIte, Nat.reduceLT, Nat.reduceMul, Nat.reduceSub, reduceCtorEq, frzLoc, rowCells, vAppM, beq_iff_eq, bne_iff_ne, bne_self_eq_false, beq_self_eq_true, beq_true, beq_false, I, B, w, vf73_res, vf73_keep, List.length_map, l0, l1, l2, r0, r1, r2, w1, w2]))))
theorem take_drop_snoc {l : List Tm} {i : Nat} {t : Tm} (h : l[i]? = some t) (h18 : 18 ≤ i) : (l.take (i + 1)).drop 18 = (l.take i).drop 18 ++ [t] := by
  have hi := (List.getElem?_eq_some_iff.1 h).1
  rw [List.take_add_one, h, List.drop_append, List.length_take]
  have e : 18 - min i l.length = 0 := by omega
  rw [e]
  rfl
set_option maxHeartbeats 8000000 in
theorem e44 (l : List Tm) (hl : l.length < 1000000) : CV VP 33 [.d (.sl (l.map Tm.row))] [] = some ⟨rbV l, [], [], 0⟩ := by
  by_cases hlo : l.length < 18
  · rw [rbV_bad fun h => by have := h.1; omega]
    have h1 : (l.length : Int) < 18 := by omega
    simp only [rb0]
    refine CV_run (vf := vf33) rfl rfl ?_
    rw [vf33_start]
    (repeat (first
    | refine RX_seq ?_
    | refine RX_block ?_
    | ((first | refine RX_reg ?_ | refine RX_cond' ?_ | refine RX_draw0 ?_ | refine RX_draw rfl ?_ | refine RX_skip ?_ | refine RX_gfrz ?_ | refine RX_exit ?_ | refine RX_ret ?_); try (simp only [go_sem, Nat.max_zero, List.isEmpty_cons, Int.reduceToNat, Nat.reducePow, Int.reduceEq, Int.reduceNe, Int.reduceLT, Int.reduceLE, Nat.reduceAdd, Nat.reduceLeDiff, ↓reduceIte, Nat.reduceLT, Nat.reduceMul, Nat.reduceSub, reduceCtorEq, frzLoc, rowCells, vAppM, beq_iff_eq, bne_iff_ne, bne_self_eq_false, beq_self_eq_true, beq_true, beq_false, I, B, w, vf33_res, vf33_keep, List.length_map, h1]))))
  by_cases hhi : 34 < l.length
  · rw [rbV_bad fun h => by have := h.2.1; omega]
    have h1 : ¬ (l.length : Int) < 18 := by omega
    have h2 : (34 : Int) < (l.length : Int) := by omega
    simp only [rb0]
    refine CV_run (vf := vf33) rfl rfl ?_
    rw [vf33_start]
    (repeat (first
    | refine RX_seq ?_
    | refine RX_block ?_
    | ((first | refine RX_reg ?_ | refine RX_cond' ?_ | refine RX_draw0 ?_ | refine RX_draw rfl ?_ | refine RX_skip ?_ | refine RX_gfrz ?_ | refine RX_exit ?_ | refine RX_ret ?_); try (simp only [go_sem, Nat.max_zero, List.isEmpty_cons, Int.reduceToNat, Nat.reducePow, Int.reduceEq, Int.reduceNe, Int.reduceLT, Int.reduceLE, Nat.reduceAdd, Nat.reduceLeDiff, ↓reduceIte, Nat.reduceLT, Nat.reduceMul, Nat.reduceSub, reduceCtorEq, frzLoc, rowCells, vAppM, beq_iff_eq, bne_iff_ne, bne_self_eq_false, beq_self_eq_true, beq_true, beq_false, I, B, w, vf33_res, vf33_keep, List.length_map, h1, h2, gt_iff_lt]))))
  have n1 : ¬ (l.length : Int) < 18 := by omega
  have n2 : ¬ (34 : Int) < (l.length : Int) := by omega
  refine CV_run (vf := vf33) rfl rfl ?_
  rw [vf33_start]
  (repeat (first
    | refine RX_seq ?_
    | refine RX_block ?_
    | ((first | refine RX_reg ?_ | refine RX_cond' ?_ | refine RX_draw0 ?_ | refine RX_draw rfl ?_ | refine RX_skip ?_ | refine RX_gfrz ?_ | refine RX_exit ?_ | refine RX_ret ?_); try (simp only [go_sem, Nat.max_zero, List.isEmpty_cons, Int.reduceToNat, Nat.reducePow, Int.reduceEq, Int.reduceNe, Int.reduceLT, Int.reduceLE, Nat.reduceAdd, Nat.reduceLeDiff, ↓reduceIte, Nat.reduceLT, Nat.reduceMul, Nat.reduceSub, reduceCtorEq, frzLoc, rowCells, vAppM, beq_iff_eq, bne_iff_ne, bne_self_eq_false, beq_self_eq_true, beq_true, beq_false, I, B, w, vf33_res, vf33_keep, List.length_map, n1, n2, gt_iff_lt]))))
  refine RX_loopN (n := 1) rfl ?_
  refine RL_ind (fun m st => ∃ (i : Nat) (v : V) (live : List Nat) (gn : Nat), i + m = l.length ∧ (∀ (j : Nat) (p : Tm), j < i → l[j]? = some p → p.op = 1 ∧ (18 ≤ j → rbB p)) ∧ Acc 1 v live (byR ((l.take i).drop 18)) ∧
    At vf33K0 1 st ((.d (.sl (l.map Tm.row)) :: .any :: .ptr 0 0 :: .any :: .any :: v :: .d (I (i : Nat)) :: .any :: .any :: .any :: .any :: .any :: .any :: .any :: .any :: .any :: .any :: .any :: .any :: .any :: .any :: .any :: .any :: .any :: .any :: .any :: .any :: .any :: .any :: .any :: .any :: .any :: .any :: .any :: .any :: .any :: .any :: .any :: .any :: .any :: .any :: .any :: .any :: .any :: .any :: .any :: .any :: .any :: .any :: .any :: .any :: .any :: .any :: .any :: .any :: .any :: .any :: .any :: .any :: .any :: .any :: .any :: .any :: .any :: .any :: .any :: .any :: .any :: .any :: .any :: .any :: .any :: .any :: .any :: .any :: .any :: .any :: .any :: .any :: .any :: .any :: .any :: .any :: .any :: .any :: .any :: .any :: .any :: .any :: .any :: .any :: .any :: .any :: .any :: .any :: .any :: .any :: .any :: [])) [[.d (I 0), .d (U 0), .d (U 0), .d (I 0), .d (U 0), .d (U 0), .d (I 0), .d (U 0), .d (U 0), .d (I 0), .d (U 0), .d (U 0), .d (I 0), .d (I 0), .d (I 0), .d (I 0), .d (I 0), .d (I 0)]] live gn 0) ?_ l.length _
    ⟨0, .nil, [], 0, Nat.zero_add _, fun j p hj => absurd hj (Nat.not_lt_zero _), .inl ⟨rfl, rfl, rfl⟩, rfl, rfl, rfl, rfl, rfl, rfl⟩
  rintro m st ⟨i, v, live, gn, hi, hgood, hv, hat⟩ ih
  cases m with
  | zero =>
    have h1 : ¬ i < l.length := by omega
    have hok : rbOk l := by
      refine ⟨by omega, by omega, fun t ht => ?_, fun t ht => ?_⟩
      · obtain ⟨j, hj⟩ := List.getElem?_of_mem ht
        exact (hgood j t (by have := (List.getElem?_eq_some_iff.1 hj).1; omega) hj).1
      · obtain ⟨j, hj⟩ := List.getElem?_of_mem ht
        rw [List.getElem?_drop] at hj
        exact (hgood (18 + j) t (by have := (List.getElem?_eq_some_iff.1 hj).1; omega) hj).2 (by omega)
    have htk : l.take i = l := List.take_of_length_le (by omega)
    rw [htk] at hv
    clear hgood ih
    obtain ⟨x0, g0⟩ : ∃ x, l[0]? = some x := ⟨_, List.getElem?_eq_getElem (by omega)⟩
    obtain ⟨x1, g1⟩ : ∃ x, l[1]? = some x := ⟨_, List.getElem?_eq_getElem (by omega)⟩
    obtain ⟨x2, g2⟩ : ∃ x, l[2]? = some x := ⟨_, List.getElem?_eq_getElem (by omega)⟩
    obtain ⟨x3, g3⟩ : ∃ x, l[3]? = some x := ⟨_, List.getElem?_eq_getElem (by omega)⟩
    obtain ⟨x4, g4⟩ : ∃ x, l[4]? = some x := ⟨_, List.getElem?_eq_getElem (by omega)⟩
    obtain ⟨x5, g5⟩ : ∃ x, l[5]? = some x := ⟨_, List.getElem?_eq_getElem (by omega)⟩
    obtain ⟨x6, g6⟩ : ∃ x, l[6]? = some x := ⟨_, List.getElem?_eq_getElem (by omega)⟩
    obtain ⟨x7, g7⟩ : ∃ x, l[7]? = some x := ⟨_, List.getElem?_eq_getElem (by omega)⟩
    obtain ⟨x8, g8⟩ : ∃ x, l[8]? = some x := ⟨_, List.getElem?_eq_getElem (by omega)⟩
    obtain ⟨x9, g9⟩ : ∃ x, l[9]? = some x := ⟨_, List.getElem?_eq_getElem (by omega)⟩
    obtain ⟨x10, g10⟩ : ∃ x, l[10]? = some x := ⟨_, List.getElem?_eq_getElem (by omega)⟩
    obtain ⟨x11, g11⟩ : ∃ x, l[11]? = some x := ⟨_, List.getElem?_eq_getElem (by omega)⟩
    obtain ⟨x12, g12⟩ : ∃ x, l[12]? = some x := ⟨_, List.getElem?_eq_getElem (by omega)⟩
    obtain ⟨x13, g13⟩ : ∃ x, l[13]? = some x := ⟨_, List.getElem?_eq_getElem (by omega)⟩
    obtain ⟨x14, g14⟩ : ∃ x, l[14]? = some x := ⟨_, List.getElem?_eq_getElem (by omega)⟩
    obtain ⟨x15, g15⟩ : ∃ x, l[15]? = some x := ⟨_, List.getElem?_eq_getElem (by omega)⟩
    obtain ⟨x16, g16⟩ : ∃ x, l[16]? = some x := ⟨_, List.getElem?_eq_getElem (by omega)⟩
    obtain ⟨x17, g17⟩ : ∃ x, l[17]? = some x := ⟨_, List.getElem?_eq_getElem (by omega)⟩
    have n0 : rbN l 0 = x0.val := by rw [rbN, List.getD_eq_getElem?_getD, g0]; rfl
    have n1 : rbN l 1 = x1.val := by rw [rbN, List.getD_eq_getElem?_getD, g1]; rfl
    have n2 : rbN l 2 = x2.val := by rw [rbN, List.getD_eq_getElem?_getD, g2]; rfl
    have n3 : rbN l 3 = x3.val := by rw [rbN, List.getD_eq_getElem?_getD, g3]; rfl
    have n4 : rbN l 4 = x4.val := by rw [rbN, List.getD_eq_getElem?_getD, g4]; rfl
    have n5 : rbN l 5 = x5.val := by rw [rbN, List.getD_eq_getElem?_getD, g5]; rfl
    have n6 : rbN l 6 = x6.val := by rw [rbN, List.getD_eq_getElem?_getD, g6]; rfl
    have n7 : rbN l 7 = x7.val := by rw [rbN, List.getD_eq_getElem?_getD, g7]; rfl
    have n8 : rbN l 8 = x8.val := by rw [rbN, List.getD_eq_getElem?_getD, g8]; rfl
    have n9 : rbN l 9 = x9.val := by rw [rbN, List.getD_eq_getElem?_getD, g9]; rfl
    have n10 : rbN l 10 = x10.val := by rw [rbN, List.getD_eq_getElem?_getD, g10]; rfl
    have n11 : rbN l 11 = x11.val := by rw [rbN, List.getD_eq_getElem?_getD, g11]; rfl
    have n12 : rbN l 12 = x12.val := by rw [rbN, List.getD_eq_getElem?_getD, g12]; rfl
    have n13 : rbN l 13 = x13.val := by rw [rbN, List.getD_eq_getElem?_getD, g13]; rfl
    have n14 : rbN l 14 = x14.val := by rw [rbN, List.getD_eq_getElem?_getD, g14]; rfl
    have n15 : rbN l 15 = x15.val := by rw [rbN, List.getD_eq_getElem?_getD, g15]; rfl
    have n16 : rbN l 16 = x16.val := by rw [rbN, List.getD_eq_getElem?_getD, g16]; rfl
    have n17 : rbN l 17 = x17.val := by rw [rbN, List.getD_eq_getElem?_getD, g17]; rfl
    have r12 : (l.map Tm.row)[12]? = some [I x12.op, I x12.val, .sl (x12.args.map Tm.row)] := by rw [List.getElem?_map, g12]; simp [Tm.row_eq]
    have k12 : 12 < l.length := by omega
    have ki12 : (12 : Int) < (l.length : Int) := by omega
    have r13 : (l.map Tm.row)[13]? = some [I x13.op, I x13.val, .sl (x13.args.map Tm.row)] := by rw [List.getElem?_map, g13]; simp [Tm.row_eq]
    have k13 : 13 < l.length := by omega
    have ki13 : (13 : Int) < (l.length : Int) := by omega
    have r14 : (l.map Tm.row)[14]? = some [I x14.op, I x14.val, .sl (x14.args.map Tm.row)] := by rw [List.getElem?_map, g14]; simp [Tm.row_eq]
    have k14 : 14 < l.length := by omega
    have ki14 : (14 : Int) < (l.length : Int) := by omega
    have r15 : (l.map Tm.row)[15]? = some [I x15.op, I x15.val, .sl (x15.args.map Tm.row)] := by rw [List.getElem?_map, g15]; simp [Tm.row_eq]
    have k15 : 15 < l.length := by omega
    have ki15 : (15 : Int) < (l.length : Int) := by omega
    have r16 : (l.map Tm.row)[16]? = some [I x16.op, I x16.val, .sl (x16.args.map Tm.row)] := by rw [List.getElem?_map, g16]; simp [Tm.row_eq]
    have k16 : 16 < l.length := by omega
    have ki16 : (16 : Int) < (l.length : Int) := by omega
    have r17 : (l.map Tm.row)[17]? = some [I x17.op, I x17.val, .sl (x17.args.map Tm.row)] := by rw [List.getElem?_map, g17]; simp [Tm.row_eq]
    have k17 : 17 < l.length := by omega
    have ki17 : (17 : Int) < (l.length : Int) := by omega
    have a0 := e89 l 0 hl g0 g1 g2
    have a3 := e89 l 3 hl g3 g4 g5
    have a6 := e89 l 6 hl g6 g7 g8
    have a9 := e89 l 9 hl g9 g10 g11
    simp only [nc0, nc3, nc6, nc9] at a0 a3 a6 a9
    have h90 := e90 x0.val (uw x1.val) (uw x2.val) x3.val (uw x4.val) (uw x5.val) x6.val (uw x7.val) (uw x8.val) x9.val (uw x10.val) (uw x11.val) x12.val x13.val x14.val x15.val x16.val x17.val
    have hC : rbC l = chk x0.val (uw x1.val) (uw x2.val) x3.val (uw x4.val) (uw x5.val) x6.val (uw x7.val) (uw x8.val) x9.val (uw x10.val) (uw x11.val) x12.val x13.val x14.val x15.val x16.val x17.val := by simp only [rbC, n0, n1, n2, n3, n4, n5, n6, n7, n8, n9, n10, n11, n12, n13, n14, n15, n16, n17]
    have hS : rbS l = ⟨((l.drop 18).map fun t => UInt8.ofNat t.val.toNat).toArray⟩ := rfl
    have hby := byR_bytes (ts := l.drop 18)
    by_cases h0 : chk x0.val (uw x1.val) (uw x2.val) x3.val (uw x4.val) (uw x5.val) x6.val (uw x7.val) (uw x8.val) x9.val (uw x10.val) (uw x11.val) x12.val x13.val x14.val x15.val x16.val x17.val = 0
    · have hV : rbV l = .tup [.agg [.d (I x0.val), .d (U (uw x1.val)), .d (U (uw x2.val)), .d (I x3.val), .d (U (uw x4.val)), .d (U (uw x5.val)), .d (I x6.val), .d (U (uw x7.val)), .d (U (uw x8.val)), .d (I x9.val), .d (U (uw x10.val)), .d (U (uw x11.val)), .d (I x12.val), .d (I x13.val), .d (I x14.val), .d (I x15.val), .d (I x16.val), .d (I x17.val)], .d (.lit (.string (rbS l))), .d (B true)] := by
        unfold rbV
        rw [if_pos ⟨hok, by rw [hC]; exact h0⟩]
        simp only [n0, n1, n2, n3, n4, n5, n6, n7, n8, n9, n10, n11, n12, n13, n14, n15, n16, n17]
      rw [hV, hS]
      rw [h0] at h90
      generalize (l.drop 18).map (fun t => UInt8.ofNat t.val.toNat) = bys at *
      rcases hv with ⟨rfl, rfl, hr0⟩ | ⟨g, rfl, rfl⟩
      · have hb0 : bys = [] := by rw [hr0] at hby; simp only [bytesOf, Option.some.injEq] at hby; exact hby.symm
        subst hb0
        refine RL_at hat rfl rfl (vf33L0_go ?_)
        (repeat (first
    | refine RX_seq ?_
    | refine RX_block ?_
    | ((first | refine RX_reg ?_ | refine RX_cond' ?_ | refine RX_draw0 ?_ | refine RX_draw rfl ?_ | refine RX_skip ?_ | refine RX_gfrz ?_ | refine RX_exit ?_ | refine RX_ret ?_); try (simp only [go_sem, Nat.max_zero, List.isEmpty_cons, Int.reduceToNat, Nat.reducePow, Int.reduceEq, Int.reduceNe, Int.reduceLT, Int.reduceLE, Nat.reduceAdd, Nat.reduceLeDiff, ↓reduceIte, Nat.reduceLT, Nat.reduceMul, Nat.reduceSub, reduceCtorEq, frzLoc, rowCells, vAppM, beq_iff_eq, bne_iff_ne, bne_self_eq_false, beq_self_eq_true, beq_true, beq_false, I, B, w, vf33_res, vf33_keep, List.length_map, h1, a0, a3, a6, a9, h90, r12, k12, ki12, r13, k13, ki13, r14, k14, ki14, r15, k15, ki15, r16, k16, ki16, r17, k17, ki17, ibne, hby, vRows, h0, hr0, bytesOf]))))
      · refine RL_at hat rfl rfl (vf33L0_go ?_)
        (repeat (first
    | refine RX_seq ?_
    | refine RX_block ?_
    | ((first | refine RX_reg ?_ | refine RX_cond' ?_ | refine RX_draw0 ?_ | refine RX_draw rfl ?_ | refine RX_skip ?_ | refine RX_gfrz ?_ | refine RX_exit ?_ | refine RX_ret ?_); try (simp only [go_sem, Nat.max_zero, List.isEmpty_cons, Int.reduceToNat, Nat.reducePow, Int.reduceEq, Int.reduceNe, Int.reduceLT, Int.reduceLE, Nat.reduceAdd, Nat.reduceLeDiff, ↓reduceIte, Nat.reduceLT, Nat.reduceMul, Nat.reduceSub, reduceCtorEq, frzLoc, rowCells, vAppM, beq_iff_eq, bne_iff_ne, bne_self_eq_false, beq_self_eq_true, beq_true, beq_false, I, B, w, vf33_res, vf33_keep, List.length_map, h1, a0, a3, a6, a9, h90, r12, k12, ki12, r13, k13, ki13, r14, k14, ki14, r15, k15, ki15, r16, k16, ki16, r17, k17, ki17, ibne, hby, vRows, h0]))))
    · have hV : rbV l = rb0 := by
        unfold rbV
        rw [if_neg]
        rintro ⟨_, h⟩
        rw [hC] at h
        exact h0 h
      rw [hV]
      simp only [rb0]
      rcases hv with ⟨rfl, rfl, hr0⟩ | ⟨g, rfl, rfl⟩
      · refine RL_at hat rfl rfl (vf33L0_go ?_)
        (repeat (first
    | refine RX_seq ?_
    | refine RX_block ?_
    | ((first | refine RX_reg ?_ | refine RX_cond' ?_ | refine RX_draw0 ?_ | refine RX_draw rfl ?_ | refine RX_skip ?_ | refine RX_gfrz ?_ | refine RX_exit ?_ | refine RX_ret ?_); try (simp only [go_sem, Nat.max_zero, List.isEmpty_cons, Int.reduceToNat, Nat.reducePow, Int.reduceEq, Int.reduceNe, Int.reduceLT, Int.reduceLE, Nat.reduceAdd, Nat.reduceLeDiff, ↓reduceIte, Nat.reduceLT, Nat.reduceMul, Nat.reduceSub, reduceCtorEq, frzLoc, rowCells, vAppM, beq_iff_eq, bne_iff_ne, bne_self_eq_false, beq_self_eq_true, beq_true, beq_false, I, B, w, vf33_res, vf33_keep, List.length_map, h1, a0, a3, a6, a9, h90, r12, k12, ki12, r13, k13, ki13, r14, k14, ki14, r15, k15, ki15, r16, k16, ki16, r17, k17, ki17, ibne, hby, vRows, h0, hr0, bytesOf]))))
      · refine RL_at hat rfl rfl (vf33L0_go ?_)
        (repeat (first
    | refine RX_seq ?_
    | refine RX_block ?_
    | ((first | refine RX_reg ?_ | refine RX_cond' ?_ | refine RX_draw0 ?_ | refine RX_draw rfl ?_ | refine RX_skip ?_ | refine RX_gfrz ?_ | refine RX_exit ?_ | refine RX_ret ?_); try (simp only [go_sem, Nat.max_zero, List.isEmpty_cons, Int.reduceToNat, Nat.reducePow, Int.reduceEq, Int.reduceNe, Int.reduceLT, Int.reduceLE, Nat.reduceAdd, Nat.reduceLeDiff, ↓reduceIte, Nat.reduceLT, Nat.reduceMul, Nat.reduceSub, reduceCtorEq, frzLoc, rowCells, vAppM, beq_iff_eq, bne_iff_ne, bne_self_eq_false, beq_self_eq_true, beq_true, beq_false, I, B, w, vf33_res, vf33_keep, List.length_map, h1, a0, a3, a6, a9, h90, r12, k12, ki12, r13, k13, ki13, r14, k14, ki14, r15, k15, ki15, r16, k16, ki16, r17, k17, ki17, ibne, hby, vRows, h0]))))
  | succ m =>
    have h1 : i < l.length := by omega
    obtain ⟨p, hp⟩ : ∃ p, l[i]? = some p := ⟨_, List.getElem?_eq_getElem h1⟩
    have hrp : (l.map Tm.row)[i]? = some [I p.op, I p.val, .sl (p.args.map Tm.row)] := by rw [List.getElem?_map, hp]; simp [Tm.row_eq]
    have hwi := w_nat (i := i) (by omega)
    have next := fun (h : p.op = 1 ∧ (18 ≤ i → rbB p)) v live gn st (hv : Acc 1 v live (byR ((l.take (i + 1)).drop 18))) hat => ih m st (Nat.lt_succ_self m) ⟨i + 1, v, live, gn, by omega, fun j q hj hq => by
      rcases Nat.lt_or_ge j i with hji | hji
      · exact hgood j q hji hq
      · obtain rfl : j = i := by omega
        rw [hp] at hq; cases hq; exact h, hv, hat⟩
    have bad : ¬ (p.op = 1 ∧ (18 ≤ i → rbB p)) → rbV l = rb0 := fun h => rbV_bad fun k => h ⟨k.2.2.1 p (List.mem_of_getElem? hp), fun h18 => k.2.2.2 p (List.mem_of_getElem? (i := i - 18) (by rw [List.getElem?_drop, show 18 + (i - 18) = i by omega]; exact hp))⟩
    clear ih hgood
    by_cases h2 : p.op = 1
    case neg =>
      rw [bad fun h => h2 h.1]
      simp only [rb0]
      rcases hv with ⟨rfl, rfl, _⟩ | ⟨g, rfl, rfl⟩ <;>
      · refine RL_at hat rfl rfl (vf33L0_go ?_)
        (repeat (first
    | refine RX_seq ?_
    | refine RX_block ?_
    | ((first | refine RX_reg ?_ | refine RX_cond' ?_ | refine RX_draw0 ?_ | refine RX_draw rfl ?_ | refine RX_skip ?_ | refine RX_gfrz ?_ | refine RX_exit ?_ | refine RX_ret ?_); try (simp only [go_sem, Nat.max_zero, List.isEmpty_cons, Int.reduceToNat, Nat.reducePow, Int.reduceEq, Int.reduceNe, Int.reduceLT, Int.reduceLE, Nat.reduceAdd, Nat.reduceLeDiff, ↓reduceIte, Nat.reduceLT, Nat.reduceMul, Nat.reduceSub, reduceCtorEq, frzLoc, rowCells, vAppM, beq_iff_eq, bne_iff_ne, bne_self_eq_false, beq_self_eq_true, beq_true, beq_false, I, B, w, vf33_res, vf33_keep, List.length_map, h1, hrp, ibne, h2]))))
    by_cases h18 : 18 ≤ i
    · have hi18 : (18 : Int) ≤ (i : Int) := by omega
      by_cases h3 : p.val < 0
      · rw [bad fun h => by have := (h.2 h18).1; omega]
        simp only [rb0]
        rcases hv with ⟨rfl, rfl, _⟩ | ⟨g, rfl, rfl⟩ <;>
        · refine RL_at hat rfl rfl (vf33L0_go ?_)
          (repeat (first
    | refine RX_seq ?_
    | refine RX_block ?_
    | ((first | refine RX_reg ?_ | refine RX_cond' ?_ | refine RX_draw0 ?_ | refine RX_draw rfl ?_ | refine RX_skip ?_ | refine RX_gfrz ?_ | refine RX_exit ?_ | refine RX_ret ?_); try (simp only [go_sem, Nat.max_zero, List.isEmpty_cons, Int.reduceToNat, Nat.reducePow, Int.reduceEq, Int.reduceNe, Int.reduceLT, Int.reduceLE, Nat.reduceAdd, Nat.reduceLeDiff, ↓reduceIte, Nat.reduceLT, Nat.reduceMul, Nat.reduceSub, reduceCtorEq, frzLoc, rowCells, vAppM, beq_iff_eq, bne_iff_ne, bne_self_eq_false, beq_self_eq_true, beq_true, beq_false, I, B, w, vf33_res, vf33_keep, List.length_map, h1, hrp, ibne, h2, hi18, ge_iff_le, h3]))))
      by_cases h4 : 255 < p.val
      · rw [bad fun h => by have := (h.2 h18).2; omega]
        simp only [rb0]
        rcases hv with ⟨rfl, rfl, _⟩ | ⟨g, rfl, rfl⟩ <;>
        · refine RL_at hat rfl rfl (vf33L0_go ?_)
          (repeat (first
    | refine RX_seq ?_
    | refine RX_block ?_
    | ((first | refine RX_reg ?_ | refine RX_cond' ?_ | refine RX_draw0 ?_ | refine RX_draw rfl ?_ | refine RX_skip ?_ | refine RX_gfrz ?_ | refine RX_exit ?_ | refine RX_ret ?_); try (simp only [go_sem, Nat.max_zero, List.isEmpty_cons, Int.reduceToNat, Nat.reducePow, Int.reduceEq, Int.reduceNe, Int.reduceLT, Int.reduceLE, Nat.reduceAdd, Nat.reduceLeDiff, ↓reduceIte, Nat.reduceLT, Nat.reduceMul, Nat.reduceSub, reduceCtorEq, frzLoc, rowCells, vAppM, beq_iff_eq, bne_iff_ne, bne_self_eq_false, beq_self_eq_true, beq_true, beq_false, I, B, w, vf33_res, vf33_keep, List.length_map, h1, hrp, ibne, h2, hi18, ge_iff_le, gt_iff_lt, h3, h4]))))
      have hsn := take_drop_snoc hp h18
      have hu8 : IntKind.u8.wrap p.val = p.val := by
        show p.val % 256 = p.val
        omega
      have nx := next ⟨h2, fun _ => ⟨by omega, by omega⟩⟩
      rw [hsn] at nx
      have hlen : (byR ((l.take i).drop 18)).length + 1 ≤ 4294967296 := by rw [byR, List.length_map, List.length_drop, List.length_take]; omega
      rcases hv with ⟨rfl, rfl, hr0⟩ | ⟨g, rfl, rfl⟩
      · refine RL_at hat rfl rfl (vf33L0_go ?_)
        (repeat (first
    | refine RX_seq ?_
    | refine RX_block ?_
    | ((first | refine RX_reg ?_ | refine RX_cond' ?_ | refine RX_draw0 ?_ | refine RX_draw rfl ?_ | refine RX_skip ?_ | refine RX_gfrz ?_ | refine RX_exit ?_ | refine RX_ret ?_); try (simp only [go_sem, Nat.max_zero, List.isEmpty_cons, Int.reduceToNat, Nat.reducePow, Int.reduceEq, Int.reduceNe, Int.reduceLT, Int.reduceLE, Nat.reduceAdd, Nat.reduceLeDiff, ↓reduceIte, Nat.reduceLT, Nat.reduceMul, Nat.reduceSub, reduceCtorEq, frzLoc, rowCells, vAppM, beq_iff_eq, bne_iff_ne, bne_self_eq_false, beq_self_eq_true, beq_true, beq_false, I, B, w, vf33_res, vf33_keep, List.length_map, h1, hrp, ibne, h2, hi18, ge_iff_le, gt_iff_lt, h3, h4, hu8, hwi]))))
        refine nx _ _ _ _ (.inr ⟨_, ?_, rfl⟩) ⟨rfl, rfl, rfl, rfl, rfl, rfl⟩
        rw [byR, List.map_append, show (List.map (fun t => [D.lit (Value.int IntKind.u8 (Tm.val t))]) ((l.take i).drop 18)) = [] from hr0]
        rfl
      · refine RL_at hat rfl rfl (vf33L0_go ?_)
        (repeat (first
    | refine RX_seq ?_
    | refine RX_block ?_
    | ((first | refine RX_reg ?_ | refine RX_cond' ?_ | refine RX_draw0 ?_ | refine RX_draw rfl ?_ | refine RX_skip ?_ | refine RX_gfrz ?_ | refine RX_exit ?_ | refine RX_ret ?_); try (simp only [go_sem, Nat.max_zero, List.isEmpty_cons, Int.reduceToNat, Nat.reducePow, Int.reduceEq, Int.reduceNe, Int.reduceLT, Int.reduceLE, Nat.reduceAdd, Nat.reduceLeDiff, ↓reduceIte, Nat.reduceLT, Nat.reduceMul, Nat.reduceSub, reduceCtorEq, frzLoc, rowCells, vAppM, beq_iff_eq, bne_iff_ne, bne_self_eq_false, beq_self_eq_true, beq_true, beq_false, I, B, w, vf33_res, vf33_keep, List.length_map, h1, hrp, ibne, h2, hi18, ge_iff_le, gt_iff_lt, h3, h4, hu8, hwi, hlen]))))
        refine nx _ _ _ _ (.inr ⟨_, ?_, rfl⟩) ⟨rfl, rfl, rfl, rfl, rfl, rfl⟩
        simp [byR]
    · have hi18 : ¬ (18 : Int) ≤ (i : Int) := by omega
      have nx := next ⟨h2, fun h => absurd h h18⟩
      have e1 : (l.take i).drop 18 = [] := List.drop_eq_nil_of_le (by rw [List.length_take]; omega)
      have e2 : (l.take (i + 1)).drop 18 = [] := List.drop_eq_nil_of_le (by rw [List.length_take]; omega)
      rw [e1] at hv
      rw [e2] at nx
      rcases hv with ⟨rfl, rfl, hr0⟩ | ⟨g, rfl, rfl⟩
      · refine RL_at hat rfl rfl (vf33L0_go ?_)
        (repeat (first
    | refine RX_seq ?_
    | refine RX_block ?_
    | ((first | refine RX_reg ?_ | refine RX_cond' ?_ | refine RX_draw0 ?_ | refine RX_draw rfl ?_ | refine RX_skip ?_ | refine RX_gfrz ?_ | refine RX_exit ?_ | refine RX_ret ?_); try (simp only [go_sem, Nat.max_zero, List.isEmpty_cons, Int.reduceToNat, Nat.reducePow, Int.reduceEq, Int.reduceNe, Int.reduceLT, Int.reduceLE, Nat.reduceAdd, Nat.reduceLeDiff, ↓reduceIte, Nat.reduceLT, Nat.reduceMul, Nat.reduceSub, reduceCtorEq, frzLoc, rowCells, vAppM, beq_iff_eq, bne_iff_ne, bne_self_eq_false, beq_self_eq_true, beq_true, beq_false, I, B, w, vf33_res, vf33_keep, List.length_map, h1, hrp, ibne, h2, hi18, ge_iff_le, hwi]))))
        exact nx _ _ _ _ (.inl ⟨rfl, rfl, rfl⟩) ⟨rfl, rfl, rfl, rfl, rfl, rfl⟩
      · refine RL_at hat rfl rfl (vf33L0_go ?_)
        (repeat (first
    | refine RX_seq ?_
    | refine RX_block ?_
    | ((first | refine RX_reg ?_ | refine RX_cond' ?_ | refine RX_draw0 ?_ | refine RX_draw rfl ?_ | refine RX_skip ?_ | refine RX_gfrz ?_ | refine RX_exit ?_ | refine RX_ret ?_); try (simp only [go_sem, Nat.max_zero, List.isEmpty_cons, Int.reduceToNat, Nat.reducePow, Int.reduceEq, Int.reduceNe, Int.reduceLT, Int.reduceLE, Nat.reduceAdd, Nat.reduceLeDiff, ↓reduceIte, Nat.reduceLT, Nat.reduceMul, Nat.reduceSub, reduceCtorEq, frzLoc, rowCells, vAppM, beq_iff_eq, bne_iff_ne, bne_self_eq_false, beq_self_eq_true, beq_true, beq_false, I, B, w, vf33_res, vf33_keep, List.length_map, h1, hrp, ibne, h2, hi18, ge_iff_le, hwi]))))
        exact nx _ _ _ _ (.inr ⟨_, rfl, rfl⟩) ⟨rfl, rfl, rfl, rfl, rfl, rfl⟩
end Go.Proofs.Ytjhfakhmflemmaa

namespace Go.Proofs.Ytjhfakhmflemmaa
open Go.VM
/-- what a cursor gives, and where it stands then -/
def curV (l : List Tm) (s : Nat × Bool) : Int := if s.2 = true then 0 else if s.1 < l.length then (l.getD s.1 Tm.zero).val else 0
def curS (l : List Tm) (s : Nat × Bool) : Nat × Bool := if s.2 = true then s else if s.1 < l.length then (s.1 + 1, decide (¬ (l.getD s.1 Tm.zero).op = 1)) else (s.1, true)
def curM (l : List Tm) (s : Nat × Bool) : List V := [.d (.sl (l.map Tm.row)), .d (I (s.1 : Nat)), .d (B s.2)]
theorem e106e {rows : List (List D)} {n : Nat} (hl : ¬ n < rows.length) (id : Nat) : ∀ bl, CtxOk bl id →
    CV VP 89 [.ptr id 0] (gx bl id [.d (.sl rows), .d (I (n : Nat)), .d (B false)] []) = some ⟨.agg [.d (I 0), .d (I 0), .d (.sl [])], gx bl id [.d (.sl rows), .d (I (n : Nat)), .d (B true)] [], [], 0⟩ := by
  intro bl h
  have hid := h.lt
  have h1 : (rows.length : Int) ≤ (n : Int) := by omega
  refine CV_run (vf := vf89) rfl rfl ?_
  rw [vf89_start]
  (repeat (first
    | refine RX_seq ?_
    | refine RX_block ?_
    | ((first | refine RX_reg ?_ | refine RX_cond' ?_ | refine RX_draw0 ?_ | refine RX_draw rfl ?_ | refine RX_skip ?_ | refine RX_gfrz ?_ | refine RX_exit ?_ | refine RX_ret ?_); try (simp only [go_sem, Nat.max_zero, List.isEmpty_cons, Int.reduceToNat, Nat.reducePow, Int.reduceEq, Int.reduceNe, Int.reduceLT, Int.reduceLE, Nat.reduceAdd, Nat.reduceLeDiff, ↓reduceIte, Nat.reduceLT, Nat.reduceMul, Nat.reduceSub, reduceCtorEq, frzLoc, rowCells, vAppM, beq_iff_eq, bne_iff_ne, bne_self_eq_false, beq_self_eq_true, beq_true, beq_false, I, B, w, vf89_res, vf89_keep, gx_len, gx_app, gx_get h, gx_own0, gx_own, gx_set h, gx_setOwn0, gx_setOwn, gx_er h, gx_take, gx_all0 h, gx_all h, CtxOk.ne0 h, ge_iff_le, hid, h1, Nat.add_right_cancel_iff, Nat.lt_irrefl, cx_nlt, Nat.not_lt_zero, Nat.ne_of_lt hid, Nat.le_add_right]))))
  done
theorem e87e {rows : List (List D)} {n : Nat} (hl : ¬ n < rows.length) (id : Nat) : ∀ bl, CtxOk bl id →
    CV VP 60 [.ptr id 0] (gx bl id [.d (.sl rows), .d (I (n : Nat)), .d (B false)] []) = some ⟨.d (I 0), gx bl id [.d (.sl rows), .d (I (n : Nat)), .d (B true)] [], [], 0⟩ := by
  intro bl h
  have hid := h.lt
  have h106 := e106e hl id bl h
  have h01 : ¬ (0 : Int) = 1 := by decide
  clear hl
  refine CV_run (vf := vf60) rfl rfl ?_
  rw [vf60_start]
  (repeat (first
    | refine RX_seq ?_
    | refine RX_block ?_
    | ((first | refine RX_reg ?_ | refine RX_cond' ?_ | refine RX_draw0 ?_ | refine RX_draw rfl ?_ | refine RX_skip ?_ | refine RX_gfrz ?_ | refine RX_exit ?_ | refine RX_ret ?_); try (simp only [go_sem, Nat.max_zero, List.isEmpty_cons, Int.reduceToNat, Nat.reducePow, Int.reduceEq, Int.reduceNe, Int.reduceLT, Int.reduceLE, Nat.reduceAdd, Nat.reduceLeDiff, ↓reduceIte, Nat.reduceLT, Nat.reduceMul, Nat.reduceSub, reduceCtorEq, frzLoc, rowCells, vAppM, beq_iff_eq, bne_iff_ne, bne_self_eq_false, beq_self_eq_true, beq_true, beq_false, I, B, w, vf60_res, vf60_keep, gx_len, gx_app, gx_get h, gx_own0, gx_own, gx_set h, gx_setOwn0, gx_setOwn, gx_er h, gx_take, gx_all0 h, gx_all h, CtxOk.ne0 h, hid, Nat.add_right_cancel_iff, Nat.lt_irrefl, cx_nlt, Nat.not_lt_zero, Nat.ne_of_lt hid, Nat.le_add_right, h106, ibne, h01, decide_not]))))
  done
theorem e87a {l : List Tm} (hl : l.length < 1000000) (s : Nat × Bool) (id : Nat) : ∀ bl, CtxOk bl id →
    CV VP 60 [.ptr id 0] (gx bl id (curM l s) []) = some ⟨.d (I (curV l s)), gx bl id (curM l (curS l s)) [], [], 0⟩ := by
  intro bl h
  obtain ⟨n, b⟩ := s
  cases b with
  | true => simp only [curV, curS, curM, if_true]; exact e87b id bl h
  | false =>
    simp only [curV, curS, curM, Bool.false_eq_true, if_false]
    by_cases hn : n < l.length
    · simp only [hn, if_true]
      have hr : (l.map Tm.row)[n]? = some [I (l.getD n Tm.zero).op, I (l.getD n Tm.zero).val, .sl ((l.getD n Tm.zero).args.map Tm.row)] := by
        rw [List.getElem?_map, List.getD_eq_getElem?_getD, List.getElem?_eq_getElem hn]
        simp [Tm.row_eq]
      exact e87g (by omega) (by simpa using hn) hr id bl h
    · simp only [hn, if_false]
      exact e87e (by simpa using hn) id bl h
theorem e86a {l : List Tm} (hl : l.length < 1000000) (s : Nat × Bool) (id : Nat) : ∀ bl, CtxOk bl id →
    CV VP 71 [.ptr id 0] (gx bl id (curM l s) []) = some ⟨.agg [.d (I (curV l s)), .d (U (uw (curV l (curS l s)))), .d (U (uw (curV l (curS l (curS l s)))))], gx bl id (curM l (curS l (curS l (curS l s)))) [], [], 0⟩ := by
  intro bl h
  have hid := h.lt
  have lift : ∀ (s : Nat × Bool) (own : List (List V)), own.map V.erL = own → own.all (V.ltbL (bl.length + own.length)) = true → CV VP 60 [.ptr id 0] (gx bl id (curM l s) own) = some ⟨.d (I (curV l s)), gx bl id (curM l (curS l s)) own, [], 0⟩ := by
    intro s own he ho
    have hc : CtxOk (gx bl id (curM l s) own) id := by
      refine ⟨by rw [gx_len]; omega, by rw [gx_er h, he]; rfl, fun b hb => ?_⟩
      rw [gx_len]
      have := gx_all (c := curM l s) (own := own) (n := own.length) h
      rw [ho, Bool.and_true] at this
      have h2 : V.ltbL (bl.length + own.length) (curM l s) = true := rfl
      rw [h2] at this
      exact List.all_eq_true.1 this b hb
    have := e87a hl s id _ hc
    have g : ∀ c own2, gx (gx bl id (curM l s) own) id c own2 = gx bl id c (own ++ own2) := fun c own2 => by
      unfold gx
      rw [List.set_append_left _ _ (by simpa using h.lt), List.set_set, List.append_assoc]
    rw [g, g, List.append_nil] at this
    exact this
  generalize hs1 : curS l s = s1 at *
  generalize hs2 : curS l s1 = s2 at *
  generalize hs3 : curS l s2 = s3 at *
  have l0 := lift s
  have l1 := lift s1
  have l2 := lift s2
  rw [hs1] at l0
  rw [hs2] at l1
  rw [hs3] at l2
  clear lift
  have em : ∀ s, V.erL (curM l s) = curM l s := fun s => rfl
  have lm : ∀ n s, V.ltbL n (curM l s) = true := fun n s => rfl
  refine CV_run (vf := vf71) rfl rfl ?_
  rw [vf71_start]
  (repeat (first
    | refine RX_seq ?_
    | refine RX_block ?_
    | ((first | refine RX_reg ?_ | refine RX_cond' ?_ | refine RX_draw0 ?_ | refine RX_draw rfl ?_ | refine RX_skip ?_ | refine RX_gfrz ?_ | refine RX_exit ?_ | refine RX_ret ?_); try (simp only [go_sem, Nat.max_zero, List.isEmpty_cons, Int.reduceToNat, Nat.reducePow, Int.reduceEq, Int.reduceNe, Int.reduceLT, Int.reduceLE, Nat.reduceAdd, Nat.reduceLeDiff, ↓reduceIte, Nat.reduceLT, Nat.reduceMul, Nat.reduceSub, reduceCtorEq, frzLoc, rowCells, vAppM, beq_iff_eq, bne_iff_ne, bne_self_eq_false, beq_self_eq_true, beq_true, beq_false, I, B, w, vf71_res, vf71_keep, gx_len, gx_app, gx_own0, gx_own, gx_setOwn0, gx_setOwn, gx_er h, gx_take, gx_all0 h, gx_all h, CtxOk.ne0 h, hid, Nat.add_right_cancel_iff, Nat.lt_irrefl, cx_nlt, Nat.not_lt_zero, Nat.ne_of_lt hid, Nat.le_add_right, l0, l1, l2, em, lm]))))
  done
end Go.Proofs.Ytjhfakhmflemmaa
