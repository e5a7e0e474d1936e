/- Messages on the machine, second part: drawn parts, comparing, parts and heads. Conditions: none. -/
import Derived.Test.YtahiikdkgbbmfaaVc
import Derived.Test.YtahiikdkgbbmfaaSes1
set_option linter.unusedSimpArgs false
namespace Go.Proofs.Ytahiikdkgbbmfaa
open Go.VM
/-- a part -/
def pT (n : Int) (ts : List Tm) : Tm := .mk 3 0 (nT n :: ts)
theorem nT_row (n : Int) : (nT n).row = [I 1, I n, .sl []] := by simp [nT, Tm.row_mk]
theorem e40 (n : Int) (ts : List Tm) (h : ts.length < 1000000) : CV VP 40 [.d (I n), .d (.sl (ts.map Tm.row))] [] = some ⟨(pT n ts).ag, [], [], 0⟩ := by
  have h1 := Tm.rows3 (nT n :: ts) (by simp only [List.length_cons]; omega)
  have h2 := Tm.rows3 ts (by omega)
  have h33 := e33 h1
  have hra : (ts.map Tm.row).all (fun r => r.length == 3) = true := h2.2
  have hl : ts.length ≤ 4294967296 := by omega
  have hl2 : ts.length + 1 ≤ 4294967296 := by omega
  simp only [pT, Tm.ag, Tm.op_mk, Tm.val_mk, Tm.args_mk, List.map_cons, nT_row] at h33 ⊢
  refine CV_run (vf := vf40) rfl rfl ?_
  rw [vf40_start]
  (repeat (first
    | refine RX_seq ?_
    | refine RX_block ?_
    | ((first | refine RX_reg ?_ | refine RX_cond' ?_ | refine RX_draw0 ?_ | refine RX_draw rfl ?_ | refine RX_skip ?_ | refine RX_exit ?_ | refine RX_ret ?_); try (simp only [go_sem, Int.reduceToNat, Nat.reducePow, Int.reduceEq, Int.reduceNe, Int.reduceLT, Int.reduceLE, Nat.reduceAdd, Nat.reduceLeDiff, ↓reduceIte, Nat.reduceLT, Nat.reduceMul, Nat.reduceSub, reduceCtorEq, frzLoc, rowCells, vAppM, beq_iff_eq, bne_iff_ne, bne_self_eq_false, beq_self_eq_true, beq_true, beq_false, I, B, w, vf40_res, vf40_keep, e75, h33, hra, hl, hl2, List.length_map, Nat.add_comm 1]))))
theorem e85 (n : Int) (ts : List Tm) (h : ts.length < 1000000) : CV VP 85 [.d (I n), .d (.sl (ts.map Tm.row))] [] = some ⟨(pT n ts).ag, [], [], 0⟩ := by
  have h40 := e40 n ts h
  refine CV_run (vf := vf85) rfl rfl ?_
  rw [vf85_start]
  (repeat (first
    | refine RX_seq ?_
    | refine RX_block ?_
    | ((first | refine RX_reg ?_ | refine RX_cond' ?_ | refine RX_draw0 ?_ | refine RX_draw rfl ?_ | refine RX_skip ?_ | refine RX_exit ?_ | refine RX_ret ?_); try (simp only [go_sem, Int.reduceToNat, Nat.reducePow, Int.reduceEq, Int.reduceNe, Int.reduceLT, Int.reduceLE, Nat.reduceAdd, Nat.reduceLeDiff, ↓reduceIte, Nat.reduceLT, Nat.reduceMul, Nat.reduceSub, reduceCtorEq, frzLoc, rowCells, vAppM, beq_iff_eq, bne_iff_ne, bne_self_eq_false, beq_self_eq_true, beq_true, beq_false, I, B, w, vf85_res, vf85_keep, h40]))))
/-- the numbers of a box -/
def bqN (f0 h0 a0 f1 h1 a1 f2 h2 a2 f3 h3 a3 p0 p1 l0 l1 r0 r1 : Int) : List Tm :=
  [nT f0, nT (w h0), nT (w a0), nT f1, nT (w h1), nT (w a1), nT f2, nT (w h2), nT (w a2), nT f3, nT (w h3), nT (w a3), nT p0, nT p1, nT l0, nT l1, nT r0, nT r1]
def byT (t : List UInt8) : List Tm := t.map fun c => nT (c.toNat : Int)
set_option maxHeartbeats 4000000 in
theorem e64 (f0 h0 a0 f1 h1 a1 f2 h2 a2 f3 h3 a3 p0 p1 l0 l1 r0 r1 : Int) (t : ByteArray) (ht : t.size < 100000) :
    CV VP 64 [.agg [.d (I f0), .d (U h0), .d (U a0), .d (I f1), .d (U h1), .d (U a1), .d (I f2), .d (U h2), .d (U a2), .d (I f3), .d (U h3), .d (U a3), .d (I p0), .d (I p1), .d (I l0), .d (I l1), .d (I r0), .d (I r1)], .d (.lit (.string t))] [] =
      some ⟨(pT 11 (bqN f0 h0 a0 f1 h1 a1 f2 h2 a2 f3 h3 a3 p0 p1 l0 l1 r0 r1 ++ byT t.data.toList)).ag, [], [], 0⟩ := by
  have w0 : IntKind.i64.wrap (0 + 1) = 1 := rfl
  have w1 : IntKind.i64.wrap (1 + 1) = 2 := rfl
  have w2 : IntKind.i64.wrap (2 + 1) = 3 := rfl
  have w3 : IntKind.i64.wrap (3 + 1) = 4 := rfl
  generalize hN : bqN f0 h0 a0 f1 h1 a1 f2 h2 a2 f3 h3 a3 p0 p1 l0 l1 r0 r1 = N
  have hNr : N.map Tm.row = [[I 1, I f0, .sl []], [I 1, I (w h0), .sl []], [I 1, I (w a0), .sl []], [I 1, I f1, .sl []], [I 1, I (w h1), .sl []], [I 1, I (w a1), .sl []], [I 1, I f2, .sl []], [I 1, I (w h2), .sl []], [I 1, I (w a2), .sl []], [I 1, I f3, .sl []], [I 1, I (w h3), .sl []], [I 1, I (w a3), .sl []], [I 1, I p0, .sl []], [I 1, I p1, .sl []], [I 1, I l0, .sl []], [I 1, I l1, .sl []], [I 1, I r0, .sl []], [I 1, I r1, .sl []]] := by
    rw [← hN]; simp only [bqN, List.map_cons, List.map_nil, nT_row]
  have hNl : N.length = 18 := by rw [← hN]; rfl
  refine CV_run (vf := vf64) rfl rfl ?_
  rw [vf64_start]
  (repeat' (first
    | refine RX_seq ?_
    | refine RX_block ?_
    | ((first | refine RX_reg ?_ | refine RX_cond' ?_ | refine RX_draw0 ?_ | refine RX_draw rfl ?_ | refine RX_skip ?_ | refine RX_exit ?_ | refine RX_ret ?_); try (simp only [go_sem, Int.reduceToNat, Nat.reducePow, Int.reduceEq, Int.reduceNe, Int.reduceLT, Int.reduceLE, Nat.reduceAdd, Nat.reduceLeDiff, ↓reduceIte, Nat.reduceLT, Nat.reduceMul, Nat.reduceSub, reduceCtorEq, frzLoc, rowCells, vAppM, bne_self_eq_false, beq_self_eq_true, beq_true, beq_false, I, B, w, ibeq, ibne, bbeq, decide_eq_false_iff_not, decide_not, Bool.not_not, Decidable.not_not, Bool.not_eq_eq_eq_not, gt_iff_lt, ge_iff_le, and_false, false_and, or_self, and_self, vf64_res, vf64_keep, e75, *]))
    | (refine ite_ngo (fun _ => ?_) (fun _ => ?_) <;> try (simp only [go_sem, Int.reduceToNat, Nat.reducePow, Int.reduceEq, Int.reduceNe, Int.reduceLT, Int.reduceLE, Nat.reduceAdd, Nat.reduceLeDiff, ↓reduceIte, Nat.reduceLT, Nat.reduceMul, Nat.reduceSub, reduceCtorEq, frzLoc, rowCells, vAppM, bne_self_eq_false, beq_self_eq_true, beq_true, beq_false, I, B, w, ibeq, ibne, bbeq, decide_eq_false_iff_not, decide_not, Bool.not_not, Decidable.not_not, Bool.not_eq_eq_eq_not, gt_iff_lt, ge_iff_le, and_false, false_and, or_self, and_self, vf64_res, vf64_keep, e75, *]))
    | (refine ite_go (fun _ => ?_) (fun _ => ?_) <;> try (simp only [go_sem, Int.reduceToNat, Nat.reducePow, Int.reduceEq, Int.reduceNe, Int.reduceLT, Int.reduceLE, Nat.reduceAdd, Nat.reduceLeDiff, ↓reduceIte, Nat.reduceLT, Nat.reduceMul, Nat.reduceSub, reduceCtorEq, frzLoc, rowCells, vAppM, bne_self_eq_false, beq_self_eq_true, beq_true, beq_false, I, B, w, ibeq, ibne, bbeq, decide_eq_false_iff_not, decide_not, Bool.not_not, Decidable.not_not, Bool.not_eq_eq_eq_not, gt_iff_lt, ge_iff_le, and_false, false_and, or_self, and_self, vf64_res, vf64_keep, e75, *]))
    | (refine RL_head ?_; simp only [go_sem, Int.reduceToNat, Nat.reducePow, Int.reduceEq, Int.reduceNe, Int.reduceLT, Int.reduceLE, Nat.reduceAdd, Nat.reduceLeDiff, ↓reduceIte, Nat.reduceLT, Nat.reduceMul, Nat.reduceSub, reduceCtorEq, frzLoc, rowCells, vAppM, bne_self_eq_false, beq_self_eq_true, beq_true, beq_false, I, B, w, ibeq, ibne, bbeq, decide_eq_false_iff_not, decide_not, Bool.not_not, Decidable.not_not, Bool.not_eq_eq_eq_not, gt_iff_lt, ge_iff_le, and_false, false_and, or_self, and_self, vf64_res, vf64_keep, e75, *, St.head, forget, vf64K0, RLK_some]; refine vf64L0_go ?_)
    | refine RX_loop ?_))
  refine (?_ : RL VP vf64K1 vf64L1 2 _ _)
  refine RL_ind (fun m st => ∃ (i g gn : Nat) (rows : List (List D)), i + m = t.size ∧ rows = (N ++ byT (t.data.toList.take i)).map Tm.row ∧
    At vf64K1 2 st ((.any :: .d (.lit (.string t)) :: .any :: .any :: .ptr 1 0 :: .sl 3 rows (.own 0 g) :: .any :: .any :: .d (I (i : Nat)) :: .any :: .any :: .any :: .any :: .any :: .any :: .any :: .any :: .any :: .any :: .any :: .any :: .any :: .any :: .any :: .any :: .any :: .any :: .any :: .any :: .any :: .any :: .any :: .any :: .any :: .any :: .any :: .any :: .any :: .any :: .any :: .any :: .any :: .any :: .any :: .any :: .any :: .any :: .any :: .any :: .any :: .any :: .any :: .any :: .any :: .any :: .any :: .any :: .any :: .any :: .any :: .any :: .any :: .any :: .any :: .any :: .any :: .any :: .any :: .any :: .any :: .any :: .any :: .any :: .any :: .any :: .any :: .any :: .any :: .any :: []))
      [[.d (I f0), .d (U h0), .d (U a0), .d (I f1), .d (U h1), .d (U a1), .d (I f2), .d (U h2), .d (U a2), .d (I f3), .d (U h3), .d (U a3), .d (I p0), .d (I p1), .d (I l0), .d (I l1), .d (I r0), .d (I r1)], [.d (I 0), .d (I 0), .nil]] [g] gn 0) ?_ t.size _
    ⟨0, _, _, _, Nat.zero_add _, ?_, rfl, rfl, rfl, rfl, rfl, rfl⟩
  case refine_2 => simp only [List.take_zero, byT, List.map_nil, List.append_nil]; exact hNr.symm
  rintro m st ⟨i, g, gn, rows, hi, hrows, hat⟩ ih
  refine RL_at hat rfl rfl (vf64L1_go ?_)
  clear hat
  have hsz : t.data.toList.length = t.size := Array.length_toList
  have hrl : rows.length ≤ 200000 := by rw [hrows, List.length_map, List.length_append, hNl, byT, List.length_map, List.length_take]; omega
  cases m with
  | zero =>
    have h1 : ¬ i < t.size := by omega
    rw [List.take_of_length_le (by omega)] at hrows
    have h40 := e40 11 (N ++ byT t.data.toList) (by rw [List.length_append, hNl, byT, List.length_map]; omega)
    rw [← hrows] at h40
    simp only [pT, Tm.ag, Tm.op_mk, Tm.val_mk, Tm.args_mk] at h40 ⊢
    generalize N ++ byT t.data.toList = A at *
    (repeat (first
    | refine RX_seq ?_
    | refine RX_block ?_
    | ((first | refine RX_reg ?_ | refine RX_cond' ?_ | refine RX_draw0 ?_ | refine RX_draw rfl ?_ | refine RX_skip ?_ | refine RX_exit ?_ | refine RX_ret ?_); try (simp only [go_sem, Int.reduceToNat, Nat.reducePow, Int.reduceEq, Int.reduceNe, Int.reduceLT, Int.reduceLE, Nat.reduceAdd, Nat.reduceLeDiff, ↓reduceIte, Nat.reduceLT, Nat.reduceMul, Nat.reduceSub, reduceCtorEq, frzLoc, rowCells, vAppM, beq_iff_eq, bne_iff_ne, bne_self_eq_false, beq_self_eq_true, beq_true, beq_false, I, B, w, vf64_res, vf64_keep, h1, h40, V.str]))))
  | succ m =>
    have h1 : i < t.size := by omega
    have hb : t[i]? = some t[i] := getElem?_pos t i h1
    have hb2 : t.data.toList[i]? = some t[i] := by rw [Array.getElem?_toList]; exact Array.getElem?_eq_getElem h1
    generalize t[i] = b at *
    have wb : IntKind.i64.wrap (b.toNat : Int) = (b.toNat : Int) := w_in (by omega) (by have := b.toNat_lt; omega)
    have hwi := w_nat (i := i) (by omega)
    have hr1 : rows.length + 1 ≤ 4294967296 := by omega
    (repeat (first
    | refine RX_seq ?_
    | refine RX_block ?_
    | ((first | refine RX_reg ?_ | refine RX_cond' ?_ | refine RX_draw0 ?_ | refine RX_draw rfl ?_ | refine RX_skip ?_ | refine RX_exit ?_ | refine RX_ret ?_); try (simp only [go_sem, Int.reduceToNat, Nat.reducePow, Int.reduceEq, Int.reduceNe, Int.reduceLT, Int.reduceLE, Nat.reduceAdd, Nat.reduceLeDiff, ↓reduceIte, Nat.reduceLT, Nat.reduceMul, Nat.reduceSub, reduceCtorEq, frzLoc, rowCells, vAppM, beq_iff_eq, bne_iff_ne, bne_self_eq_false, beq_self_eq_true, beq_true, beq_false, I, B, w, vf64_res, vf64_keep, h1, hb, wb, V.str, e75, hwi, hr1]))))
    refine ih m _ (Nat.lt_succ_self m) ⟨i + 1, _, _, _, by omega, ?_, rfl, rfl, rfl, rfl, rfl, rfl⟩
    rw [hrows, List.take_add_one, hb2]
    simp [byT, nT_row]
end Go.Proofs.Ytahiikdkgbbmfaa

namespace Go.Proofs.Ytahiikdkgbbmfaa
open Go.VM
theorem e40r (n : Int) (rows : List (List D)) (h : rows.length ≤ 1000000) (hr : rows.all (fun r => r.length == 3) = true) : CV VP 40 [.d (I n), .d (.sl rows)] [] = some ⟨.agg [.d (I 3), .d (I 0), .d (.sl ([I 1, I n, .sl []] :: rows))], [], [], 0⟩ := by
  have h33 := e33 (rows := [I 1, I n, .sl []] :: rows) ⟨by simp only [List.length_cons]; omega, by simp [hr]⟩
  have hl : rows.length ≤ 4294967296 := by omega
  have hl2 : rows.length + 1 ≤ 4294967296 := by omega
  refine CV_run (vf := vf40) rfl rfl ?_
  rw [vf40_start]
  (repeat (first
    | refine RX_seq ?_
    | refine RX_block ?_
    | ((first | refine RX_reg ?_ | refine RX_cond' ?_ | refine RX_draw0 ?_ | refine RX_draw rfl ?_ | refine RX_skip ?_ | refine RX_exit ?_ | refine RX_ret ?_); try (simp only [go_sem, Int.reduceToNat, Nat.reducePow, Int.reduceEq, Int.reduceNe, Int.reduceLT, Int.reduceLE, Nat.reduceAdd, Nat.reduceLeDiff, ↓reduceIte, Nat.reduceLT, Nat.reduceMul, Nat.reduceSub, reduceCtorEq, frzLoc, rowCells, vAppM, beq_iff_eq, bne_iff_ne, bne_self_eq_false, beq_self_eq_true, beq_true, beq_false, I, B, w, vf40_res, vf40_keep, e75, h33, hr, hl, hl2, Nat.add_comm 1]))))
theorem e85r (n : Int) (rows : List (List D)) (h : rows.length ≤ 1000000) (hr : rows.all (fun r => r.length == 3) = true) : CV VP 85 [.d (I n), .d (.sl rows)] [] = some ⟨.agg [.d (I 3), .d (I 0), .d (.sl ([I 1, I n, .sl []] :: rows))], [], [], 0⟩ := by
  have h40 := e40r n rows h hr
  refine CV_run (vf := vf85) rfl rfl ?_
  rw [vf85_start]
  (repeat (first
    | refine RX_seq ?_
    | refine RX_block ?_
    | ((first | refine RX_reg ?_ | refine RX_cond' ?_ | refine RX_draw0 ?_ | refine RX_draw rfl ?_ | refine RX_skip ?_ | refine RX_exit ?_ | refine RX_ret ?_); try (simp only [go_sem, Int.reduceToNat, Nat.reducePow, Int.reduceEq, Int.reduceNe, Int.reduceLT, Int.reduceLE, Nat.reduceAdd, Nat.reduceLeDiff, ↓reduceIte, Nat.reduceLT, Nat.reduceMul, Nat.reduceSub, reduceCtorEq, frzLoc, rowCells, vAppM, beq_iff_eq, bne_iff_ne, bne_self_eq_false, beq_self_eq_true, beq_true, beq_false, I, B, w, vf85_res, vf85_keep, h40]))))
theorem e85n (n : Int) : CV VP 85 [.d (I n), .d (.sl [])] [] = some ⟨.agg [.d (I 3), .d (I 0), .d (.sl [[I 1, I n, .sl []]])], [], [], 0⟩ := e85r n [] (by decide) rfl
/-- lists that are drawn, one behind the other -/
def drC {α : Type} (f : Nat → List α × Nat) : Nat → Nat → List α × Nat
  | 0, k => ([], k)
  | n + 1, k => ((f k).1 ++ (drC f n (f k).2).1, (drC f n (f k).2).2)
/-- the part of a box -/
def bxPt (b : Bx) (t : ByteArray) : Tm := pT 11 (bqN b.f b.h b.a0 b.f b.h b.b0 b.f b.h b.a1 b.f b.h b.b1 b.p0 b.p1 b.l0 b.l1 b.r0 b.r1 ++ byT t.data.toList)
def exx : ByteArray := ⟨#[120]⟩
def paNm (x : Int) : ByteArray := if x = 2 then silver else if x = 3 then exx else gold
/-- the parts that are drawn in one round -/
def paF (l : List Int) (s : Int) (b : Bx) (k : Nat) : List Tm × Nat :=
  let x := nxV l k 14
  let k1 := nxA l k
  let k2 := nxA l k1
  if x = 0 ∨ x = 1 ∨ x = 2 then ([pT 10 [nT (5000 + nxV l k1 4)], bxPt b (paNm (nxV l k2 4))], nxA l k2)
  else if x = 3 ∨ x = 4 ∨ x = 5 then ([pT 3 [gNm (1 - s) (900 + nxV l k1 20)]], k2)
  else if x = 6 ∨ x = 7 then ([pT 13 [nT 1]], k1)
  else if x = 8 then ([pT 2 [nT 31, .mk 4 0 [gNm (1 - s) 930]], pT 10 [nT 6000]], k1)
  else if x = 9 then ([pT 14 [nT 1, nT (nxV l k1 9)]], k2)
  else if x = 10 then ([pT (if nxV l k1 2 = 0 then 15 else 16) []], k2)
  else if x = 11 then ([pT 17 [nmT l k1]], nmA l k1)
  else if x = 12 then ([pT 12 [nT (if nxV l k1 3 = 0 then 43 else if nxV l k1 3 = 1 then 44 else 7)]], k2)
  else ([pT (1 + nxV l k1 18) (drS l 2 1 k2).1], (drS l 2 1 k2).2)
theorem gNm_row (a b : Int) : (gNm a b).row = [I 2, I (w (w (a * 1048576) + b)), .sl []] := by simp [gNm, Tm.row_mk]
theorem nmT_row (l : List Int) (k : Nat) : (nmT l k).row = [I 2, I (nmV l k), .sl []] := by simp [nmT, Tm.row_mk]
theorem pT_row (n : Int) (ts : List Tm) : (pT n ts).row = [I 3, I 0, .sl ([I 1, I n, .sl []] :: ts.map Tm.row)] := by simp [pT, Tm.row_mk, nT_row]
end Go.Proofs.Ytahiikdkgbbmfaa

namespace Go.Proofs.Ytahiikdkgbbmfaa
open Go.VM
set_option maxRecDepth 20000 in
set_option maxHeartbeats 8000000 in
/-- one round of the loop of Parts -/
theorem L37 {l : List Int} (hB : Bytes l) (s : Int) (hs : s = 0 ∨ s = 1) (gt : List V) (hgc : V.erL gt = gt) (hgl : ∀ n, V.ltbL n gt = true) (b : Bx) (id : Nat) {bl : List (List V)} (h : CtxOk bl id)
    {Q : VExit → St → Prop} (m : Nat) (k : Nat) (acc : List Tm) (v : V) (live : List Nat) (gn : Nat) (hm : m < 100) (ha : acc.length + 2 * m < 1000) (hv : Acc 3 v live (acc.map Tm.row)) (st : St)
    (hat : At vf37K0 (bl.length + 2) st ((.ptr id 0 :: .any :: .any :: .ptr bl.length 0 :: .any :: .d (I 1) :: .ptr (bl.length + 1) 0 :: v :: .d (I ((m : Int) - 1)) :: .any :: .any :: .any :: .any :: .any :: .any :: .any :: .any :: .any :: .any :: .any :: .any :: .any :: .any :: .any :: .any :: .any :: .any :: .any :: .any :: .any :: .any :: .any :: .any :: .any :: .any :: .any :: .any :: .any :: .any :: .any :: .any :: .any :: .any :: .any :: .any :: .any :: .any :: .any :: .any :: .any :: .any :: .any :: .any :: .any :: .any :: .any :: .any :: .any :: .any :: .any :: .any :: .any :: .any :: .any :: .any :: .any :: .any :: .any :: .any :: .any :: .any :: .any :: .any :: .any :: .any :: .any :: .any :: .any :: .any :: .any :: .any :: .any :: .any :: .any :: .any :: .any :: .any :: .any :: .any :: .any :: .any :: .any :: .any :: .any :: .any :: .any :: .any :: .any :: .any :: .any :: .any :: .any :: .any :: .any :: .any :: .any :: .any :: .any :: .any :: .any :: .any :: .any :: .any :: .any :: .any :: .any :: .any :: .any :: .any :: .any :: .any :: .any :: .any :: .any :: .any :: .any :: .any :: .any :: .any :: .any :: .any :: .any :: .any :: .any :: .any :: .any :: .any :: .any :: .any :: .any :: .any :: .any :: .any :: .any :: .any :: .any :: .any :: .any :: .any :: .any :: .any :: .any :: .any :: .any :: .any :: .any :: .any :: .any :: .any :: .any :: .any :: .any :: .any :: .any :: .any :: .any :: .any :: .any :: .any :: .any :: .any :: .any :: .any :: .any :: [])) (cx bl id l (k : Nat) [.d (I s) :: gt, b.row.map .d]) live gn bl.length)
    (hQ : ∀ v live gn st, Acc 3 v live ((acc ++ (drC (paF l s b) m k).1).map Tm.row) → At vf37K0 (bl.length + 2) st ((.ptr id 0 :: .any :: .any :: .ptr bl.length 0 :: .any :: .d (I 1) :: .ptr (bl.length + 1) 0 :: v :: .d (I (-1)) :: .any :: .any :: .any :: .any :: .any :: .any :: .any :: .any :: .any :: .any :: .any :: .any :: .any :: .any :: .any :: .any :: .any :: .any :: .any :: .any :: .any :: .any :: .any :: .any :: .any :: .any :: .any :: .any :: .any :: .any :: .any :: .any :: .any :: .any :: .any :: .any :: .any :: .any :: .any :: .any :: .any :: .any :: .any :: .any :: .any :: .any :: .any :: .any :: .any :: .any :: .any :: .any :: .any :: .any :: .any :: .any :: .any :: .any :: .any :: .any :: .any :: .any :: .any :: .any :: .any :: .any :: .any :: .any :: .any :: .any :: .any :: .any :: .any :: .any :: .any :: .any :: .any :: .any :: .any :: .any :: .any :: .any :: .any :: .any :: .any :: .any :: .any :: .any :: .any :: .any :: .any :: .any :: .any :: .any :: .any :: .any :: .any :: .any :: .any :: .any :: .any :: .any :: .any :: .any :: .any :: .any :: .any :: .any :: .any :: .any :: .any :: .any :: .any :: .any :: .any :: .any :: .any :: .any :: .any :: .any :: .any :: .any :: .any :: .any :: .any :: .any :: .any :: .any :: .any :: .any :: .any :: .any :: .any :: .any :: .any :: .any :: .any :: .any :: .any :: .any :: .any :: .any :: .any :: .any :: .any :: .any :: .any :: .any :: .any :: .any :: .any :: .any :: .any :: .any :: .any :: .any :: .any :: .any :: .any :: .any :: .any :: .any :: .any :: .any :: .any :: [])) (cx bl id l ((drC (paF l s b) m k).2 : Nat) [.d (I s) :: gt, b.row.map .d]) live gn bl.length → RL VP vf37K0 vf37L0 (bl.length + 2) st Q) :
    RL VP vf37K0 vf37L0 (bl.length + 2) st Q := by
  induction m generalizing k acc v live gn st with
  | zero =>
    refine hQ v live gn st (by simpa [drC] using hv) ?_
    simpa [drC] using hat
  | succ m ih =>
    have hpa : ∀ v live gn st, Acc 3 v live ((acc ++ (paF l s b k).1).map Tm.row) → At vf37K0 (bl.length + 2) st ((.ptr id 0 :: .any :: .any :: .ptr bl.length 0 :: .any :: .d (I 1) :: .ptr (bl.length + 1) 0 :: v :: .d (I ((m : Int) - 1)) :: .any :: .any :: .any :: .any :: .any :: .any :: .any :: .any :: .any :: .any :: .any :: .any :: .any :: .any :: .any :: .any :: .any :: .any :: .any :: .any :: .any :: .any :: .any :: .any :: .any :: .any :: .any :: .any :: .any :: .any :: .any :: .any :: .any :: .any :: .any :: .any :: .any :: .any :: .any :: .any :: .any :: .any :: .any :: .any :: .any :: .any :: .any :: .any :: .any :: .any :: .any :: .any :: .any :: .any :: .any :: .any :: .any :: .any :: .any :: .any :: .any :: .any :: .any :: .any :: .any :: .any :: .any :: .any :: .any :: .any :: .any :: .any :: .any :: .any :: .any :: .any :: .any :: .any :: .any :: .any :: .any :: .any :: .any :: .any :: .any :: .any :: .any :: .any :: .any :: .any :: .any :: .any :: .any :: .any :: .any :: .any :: .any :: .any :: .any :: .any :: .any :: .any :: .any :: .any :: .any :: .any :: .any :: .any :: .any :: .any :: .any :: .any :: .any :: .any :: .any :: .any :: .any :: .any :: .any :: .any :: .any :: .any :: .any :: .any :: .any :: .any :: .any :: .any :: .any :: .any :: .any :: .any :: .any :: .any :: .any :: .any :: .any :: .any :: .any :: .any :: .any :: .any :: .any :: .any :: .any :: .any :: .any :: .any :: .any :: .any :: .any :: .any :: .any :: .any :: .any :: .any :: .any :: .any :: .any :: .any :: .any :: .any :: .any :: .any :: .any :: [])) (cx bl id l ((paF l s b k).2 : Nat) [.d (I s) :: gt, b.row.map .d]) live gn bl.length → (paF l s b k).1.length ≤ 2 → RL VP vf37K0 vf37L0 (bl.length + 2) st Q := by
      intro v live gn st hv hat hlen
      refine ih (paF l s b k).2 _ v live gn (by omega) (by rw [List.length_append]; omega) hv st hat fun v live gn st hv hat => hQ v live gn st ?_ ?_
      · rw [drC]; simpa [List.append_assoc] using hv
      · rw [drC]; exact hat
    clear hQ ih
    have cN : ∀ (n : Int), 0 < n → n ≤ 256 → ∀ (k : Nat) (own : List (List V)), own.map V.erL = own → own.all (V.ltbL (bl.length + own.length)) = true → CV VP 29 [.ptr id 0, .d (I n)] (cx bl id l (k : Nat) own) = some ⟨.d (I (nxV l k n)), cx bl id l (nxA l k : Nat) own, [], 0⟩ := fun n h1 h2 k own => e29 hB h h1 h2
    have c14 := cN 14 (by decide) (by decide)
    have c4 := cN 4 (by decide) (by decide)
    have c20 := cN 20 (by decide) (by decide)
    have c9 := cN 9 (by decide) (by decide)
    have c2 := cN 2 (by decide) (by decide)
    have c3 := cN 3 (by decide) (by decide)
    have c18 := cN 18 (by decide) (by decide)
    have c68 : ∀ (k : Nat) (own : List (List V)), own.map V.erL = own → own.all (V.ltbL (bl.length + own.length)) = true → CV VP 68 [.ptr id 0] (cx bl id l (k : Nat) own) = some ⟨.agg [.d (I 2), .d (I (nmV l k)), .d (.sl [])], cx bl id l (nmA l k : Nat) own, [], 0⟩ := fun k own => cx_lift (fun bl h => e68b hB id k bl h) h
    have c22 : ∀ (k : Nat) (own : List (List V)), own.map V.erL = own → own.all (V.ltbL (bl.length + own.length)) = true → CV VP 22 [.ptr id 0, .d (I 2), .d (I 2)] (cx bl id l (k : Nat) own) = some ⟨.d (.sl ((drS l 2 1 k).1.map Tm.row)), cx bl id l ((drS l 2 1 k).2 : Nat) own, [], 0⟩ := fun k own => cx_lift (fun bl h => e22b hB 2 (by decide) (by decide) 1 (by decide) id k bl h) h
    have r14 := nxV_range hB (k := k) (n := 14) (by decide)
    have q4 := nxV_range hB (k := nxA l k) (n := 4) (by decide)
    have q4b := nxV_range hB (k := nxA l (nxA l k)) (n := 4) (by decide)
    have q20 := nxV_range hB (k := nxA l k) (n := 20) (by decide)
    have q2 := nxV_range hB (k := nxA l k) (n := 2) (by decide)
    have q3 := nxV_range hB (k := nxA l k) (n := 3) (by decide)
    have q18 := nxV_range hB (k := nxA l k) (n := 18) (by decide)
    have m4 : IntKind.i64.wrap (5000 + nxV l (nxA l k) 4) = 5000 + nxV l (nxA l k) 4 := w_in (by omega) (by omega)
    have m20 : IntKind.i64.wrap (900 + nxV l (nxA l k) 20) = 900 + nxV l (nxA l k) 20 := w_in (by omega) (by omega)
    have m18 : IntKind.i64.wrap (1 + nxV l (nxA l k) 18) = 1 + nxV l (nxA l k) 18 := w_in (by omega) (by omega)
    have ms : IntKind.i64.wrap (1 - s) = 1 - s := w_in (by omega) (by omega)
    have hwm : IntKind.i64.wrap (((m + 1 : Nat) : Int) - 1 - 1) = (m : Int) - 1 := by rw [w_in (by omega) (by omega)]; omega
    have hge : (0 : Int) ≤ ((m + 1 : Nat) : Int) - 1 := by omega
    have h64 : ∀ t, t = gold ∨ t = silver ∨ t = exx → CV VP 64 [b.ag, .d (.lit (.string t))] [] = some ⟨.agg [.d (I 3), .d (I 0), .d (.sl ((bxPt b t).args.map Tm.row))], [], [], 0⟩ := fun t ht => e64 _ _ _ _ _ _ _ _ _ _ _ _ _ _ _ _ _ _ t (by rcases ht with rfl | rfl | rfl <;> decide)
    have h64g := h64 gold (.inl rfl)
    have h64s := h64 silver (.inr (.inl rfl))
    have h64x := h64 exx (.inr (.inr rfl))
    have bxr : ∀ t, (bxPt b t).row = [I 3, I 0, .sl ((bxPt b t).args.map Tm.row)] := fun t => Tm.row_eq _
    have hdl : (drS l 2 1 (nxA l (nxA l k))).1.length ≤ 2 := by
      have := nxV_range hB (k := nxA l (nxA l k)) (n := 2 + 1) (by decide)
      rw [drS, drL_len]; omega
    have hd1 : ((drS l 2 1 (nxA l (nxA l k))).1.map Tm.row).length ≤ 1000000 := by rw [List.length_map]; omega
    have hd2 := (Tm.rows3 (drS l 2 1 (nxA l (nxA l k))).1 (by omega)).2
    have hdr := fun n => e40r n _ hd1 hd2
    have a1 : acc.length + 1 ≤ 4294967296 := by omega
    have a2 : acc.length + 2 ≤ 4294967296 := by omega
    have hid := h.lt
    have hg1 : 1 ≤ gt.length + 1 := by omega
    have hb2 : bl.length < bl.length + 2 := by omega
    have hb3 : bl.length + 1 < bl.length + 2 := by omega
    have hid2 : id < bl.length + 2 := by omega
    clear cN h64
    simp only [gold, silver, exx] at h64g h64s h64x
    have hx : nxV l k 14 = 0 ∨ nxV l k 14 = 1 ∨ nxV l k 14 = 2 ∨ nxV l k 14 = 3 ∨ nxV l k 14 = 4 ∨ nxV l k 14 = 5 ∨ nxV l k 14 = 6 ∨ nxV l k 14 = 7 ∨ nxV l k 14 = 8 ∨ nxV l k 14 = 9 ∨ nxV l k 14 = 10 ∨ nxV l k 14 = 11 ∨ nxV l k 14 = 12 ∨ nxV l k 14 = 13 := by omega
    have hx4 : nxV l (nxA l (nxA l k)) 4 = 0 ∨ nxV l (nxA l (nxA l k)) 4 = 1 ∨ nxV l (nxA l (nxA l k)) 4 = 2 ∨ nxV l (nxA l (nxA l k)) 4 = 3 := by omega
    have hx2 : nxV l (nxA l k) 2 = 0 ∨ nxV l (nxA l k) 2 = 1 := by omega
    have hx3 : nxV l (nxA l k) 3 = 0 ∨ nxV l (nxA l k) 3 = 1 ∨ nxV l (nxA l k) 3 = 2 := by omega
    clear r14 q4 q4b q20 q2 q3 q18 hs hB
    rcases hx with hx | hx | hx | hx | hx | hx | hx | hx | hx | hx | hx | hx | hx | hx
    · have hp := hpa
      simp only [paF, hx, Int.reduceEq, or_false, false_or, or_true, true_or, if_true, if_false, or_self] at hp
      clear hpa
      rcases hx4 with hx4 | hx4 | hx4 | hx4
      all_goals
        simp only [paNm, hx4, Int.reduceEq, if_true, if_false] at hp
        rcases hv with ⟨rfl, rfl, hr0⟩ | ⟨g, rfl, rfl⟩ <;>
        · refine RL_at hat (by (simp only [go_sem, Int.reduceToNat, Nat.reducePow, Int.reduceEq, Int.reduceNe, Int.reduceLT, Int.reduceLE, Nat.reduceAdd, Nat.reduceLeDiff, ↓reduceIte, Nat.reduceLT, Nat.reduceMul, Nat.reduceSub, reduceCtorEq, frzLoc, rowCells, vAppM, beq_iff_eq, bne_iff_ne, bne_self_eq_false, beq_self_eq_true, beq_true, beq_false, I, B, w, cx_len, cx_app, cx_own0, cx_own, cx_setOwn0, cx_setOwn, cx_take, cx_takeN, Nat.add_right_cancel_iff, Nat.lt_irrefl, cx_nlt, Nat.not_lt_zero, cx_get' h, cx_setId' h, cx_er h, cx_all0 h, cx_all h, CtxOk.lt h, hb2, hb3, hid2])) (by (simp only [go_sem, Int.reduceToNat, Nat.reducePow, Int.reduceEq, Int.reduceNe, Int.reduceLT, Int.reduceLE, Nat.reduceAdd, Nat.reduceLeDiff, ↓reduceIte, Nat.reduceLT, Nat.reduceMul, Nat.reduceSub, reduceCtorEq, frzLoc, rowCells, vAppM, beq_iff_eq, bne_iff_ne, bne_self_eq_false, beq_self_eq_true, beq_true, beq_false, I, B, w, cx_len, cx_app, cx_own0, cx_own, cx_setOwn0, cx_setOwn, cx_take, cx_takeN, Nat.add_right_cancel_iff, Nat.lt_irrefl, cx_nlt, Nat.not_lt_zero, cx_get' h, cx_setId' h, cx_er h, cx_all0 h, cx_all h, CtxOk.lt h, hgl, hb2, hb3, hid2])) (vf37L0_go ?_)
          (repeat (first
    | refine RX_seq ?_
    | refine RX_block ?_
    | ((first | refine RX_reg ?_ | refine RX_cond' ?_ | refine RX_draw0 ?_ | refine RX_draw rfl ?_ | refine RX_skip ?_ | refine RX_exit ?_ | refine RX_ret ?_); try (simp only [go_sem, Int.reduceToNat, Nat.reducePow, Int.reduceEq, Int.reduceNe, Int.reduceLT, Int.reduceLE, Nat.reduceAdd, Nat.reduceLeDiff, ↓reduceIte, Nat.reduceLT, Nat.reduceMul, Nat.reduceSub, reduceCtorEq, frzLoc, rowCells, vAppM, beq_iff_eq, bne_iff_ne, bne_self_eq_false, beq_self_eq_true, beq_true, beq_false, I, B, w, vf37_res, vf37_keep, cx_len, cx_app, cx_own0, cx_own, cx_setOwn0, cx_setOwn, cx_take, cx_takeN, Nat.add_right_cancel_iff, Nat.lt_irrefl, cx_nlt, Nat.not_lt_zero, cx_get' h, cx_setId' h, cx_er h, cx_all0 h, cx_all h, CtxOk.lt h, gt_iff_lt, ge_iff_le, ibeq, hg1, hgc, hgl, c14, c4, c20, c9, c2, c3, c18, c68, c22, m4, m20, m18, ms, hwm, hge, h64g, h64s, h64x, hdr, a1, a2, hid, hb2, hb3, hid2, e75, e70, e77, e85n, e85r, List.length_map, hx, hx4]))))
          refine hp _ _ _ _ (.inr ⟨_, ?_, rfl⟩) ⟨rfl, ?_, rfl, rfl, rfl, rfl⟩ (by simp)
          · first | (rw [List.map_append, hr0]; simp [pT_row, nT_row, gNm_row, nmT_row, bxr, Tm.row_mk, gold, silver, exx]; done) | (rw [List.map_append]; simp [pT_row, nT_row, gNm_row, nmT_row, bxr, Tm.row_mk, gold, silver, exx]; done)
          · (simp only [cx_takeN, List.take_succ_cons, List.take_zero] <;> try rfl)
    · have hp := hpa
      simp only [paF, hx, Int.reduceEq, or_false, false_or, or_true, true_or, if_true, if_false, or_self] at hp
      clear hpa
      rcases hx4 with hx4 | hx4 | hx4 | hx4
      all_goals
        simp only [paNm, hx4, Int.reduceEq, if_true, if_false] at hp
        rcases hv with ⟨rfl, rfl, hr0⟩ | ⟨g, rfl, rfl⟩ <;>
        · refine RL_at hat (by (simp only [go_sem, Int.reduceToNat, Nat.reducePow, Int.reduceEq, Int.reduceNe, Int.reduceLT, Int.reduceLE, Nat.reduceAdd, Nat.reduceLeDiff, ↓reduceIte, Nat.reduceLT, Nat.reduceMul, Nat.reduceSub, reduceCtorEq, frzLoc, rowCells, vAppM, beq_iff_eq, bne_iff_ne, bne_self_eq_false, beq_self_eq_true, beq_true, beq_false, I, B, w, cx_len, cx_app, cx_own0, cx_own, cx_setOwn0, cx_setOwn, cx_take, cx_takeN, Nat.add_right_cancel_iff, Nat.lt_irrefl, cx_nlt, Nat.not_lt_zero, cx_get' h, cx_setId' h, cx_er h, cx_all0 h, cx_all h, CtxOk.lt h, hb2, hb3, hid2])) (by (simp only [go_sem, Int.reduceToNat, Nat.reducePow, Int.reduceEq, Int.reduceNe, Int.reduceLT, Int.reduceLE, Nat.reduceAdd, Nat.reduceLeDiff, ↓reduceIte, Nat.reduceLT, Nat.reduceMul, Nat.reduceSub, reduceCtorEq, frzLoc, rowCells, vAppM, beq_iff_eq, bne_iff_ne, bne_self_eq_false, beq_self_eq_true, beq_true, beq_false, I, B, w, cx_len, cx_app, cx_own0, cx_own, cx_setOwn0, cx_setOwn, cx_take, cx_takeN, Nat.add_right_cancel_iff, Nat.lt_irrefl, cx_nlt, Nat.not_lt_zero, cx_get' h, cx_setId' h, cx_er h, cx_all0 h, cx_all h, CtxOk.lt h, hgl, hb2, hb3, hid2])) (vf37L0_go ?_)
          (repeat (first
    | refine RX_seq ?_
    | refine RX_block ?_
    | ((first | refine RX_reg ?_ | refine RX_cond' ?_ | refine RX_draw0 ?_ | refine RX_draw rfl ?_ | refine RX_skip ?_ | refine RX_exit ?_ | refine RX_ret ?_); try (simp only [go_sem, Int.reduceToNat, Nat.reducePow, Int.reduceEq, Int.reduceNe, Int.reduceLT, Int.reduceLE, Nat.reduceAdd, Nat.reduceLeDiff, ↓reduceIte, Nat.reduceLT, Nat.reduceMul, Nat.reduceSub, reduceCtorEq, frzLoc, rowCells, vAppM, beq_iff_eq, bne_iff_ne, bne_self_eq_false, beq_self_eq_true, beq_true, beq_false, I, B, w, vf37_res, vf37_keep, cx_len, cx_app, cx_own0, cx_own, cx_setOwn0, cx_setOwn, cx_take, cx_takeN, Nat.add_right_cancel_iff, Nat.lt_irrefl, cx_nlt, Nat.not_lt_zero, cx_get' h, cx_setId' h, cx_er h, cx_all0 h, cx_all h, CtxOk.lt h, gt_iff_lt, ge_iff_le, ibeq, hg1, hgc, hgl, c14, c4, c20, c9, c2, c3, c18, c68, c22, m4, m20, m18, ms, hwm, hge, h64g, h64s, h64x, hdr, a1, a2, hid, hb2, hb3, hid2, e75, e70, e77, e85n, e85r, List.length_map, hx, hx4]))))
          refine hp _ _ _ _ (.inr ⟨_, ?_, rfl⟩) ⟨rfl, ?_, rfl, rfl, rfl, rfl⟩ (by simp)
          · first | (rw [List.map_append, hr0]; simp [pT_row, nT_row, gNm_row, nmT_row, bxr, Tm.row_mk, gold, silver, exx]; done) | (rw [List.map_append]; simp [pT_row, nT_row, gNm_row, nmT_row, bxr, Tm.row_mk, gold, silver, exx]; done)
          · (simp only [cx_takeN, List.take_succ_cons, List.take_zero] <;> try rfl)
    · have hp := hpa
      simp only [paF, hx, Int.reduceEq, or_false, false_or, or_true, true_or, if_true, if_false, or_self] at hp
      clear hpa
      rcases hx4 with hx4 | hx4 | hx4 | hx4
      all_goals
        simp only [paNm, hx4, Int.reduceEq, if_true, if_false] at hp
        rcases hv with ⟨rfl, rfl, hr0⟩ | ⟨g, rfl, rfl⟩ <;>
        · refine RL_at hat (by (simp only [go_sem, Int.reduceToNat, Nat.reducePow, Int.reduceEq, Int.reduceNe, Int.reduceLT, Int.reduceLE, Nat.reduceAdd, Nat.reduceLeDiff, ↓reduceIte, Nat.reduceLT, Nat.reduceMul, Nat.reduceSub, reduceCtorEq, frzLoc, rowCells, vAppM, beq_iff_eq, bne_iff_ne, bne_self_eq_false, beq_self_eq_true, beq_true, beq_false, I, B, w, cx_len, cx_app, cx_own0, cx_own, cx_setOwn0, cx_setOwn, cx_take, cx_takeN, Nat.add_right_cancel_iff, Nat.lt_irrefl, cx_nlt, Nat.not_lt_zero, cx_get' h, cx_setId' h, cx_er h, cx_all0 h, cx_all h, CtxOk.lt h, hb2, hb3, hid2])) (by (simp only [go_sem, Int.reduceToNat, Nat.reducePow, Int.reduceEq, Int.reduceNe, Int.reduceLT, Int.reduceLE, Nat.reduceAdd, Nat.reduceLeDiff, ↓reduceIte, Nat.reduceLT, Nat.reduceMul, Nat.reduceSub, reduceCtorEq, frzLoc, rowCells, vAppM, beq_iff_eq, bne_iff_ne, bne_self_eq_false, beq_self_eq_true, beq_true, beq_false, I, B, w, cx_len, cx_app, cx_own0, cx_own, cx_setOwn0, cx_setOwn, cx_take, cx_takeN, Nat.add_right_cancel_iff, Nat.lt_irrefl, cx_nlt, Nat.not_lt_zero, cx_get' h, cx_setId' h, cx_er h, cx_all0 h, cx_all h, CtxOk.lt h, hgl, hb2, hb3, hid2])) (vf37L0_go ?_)
          (repeat (first
    | refine RX_seq ?_
    | refine RX_block ?_
    | ((first | refine RX_reg ?_ | refine RX_cond' ?_ | refine RX_draw0 ?_ | refine RX_draw rfl ?_ | refine RX_skip ?_ | refine RX_exit ?_ | refine RX_ret ?_); try (simp only [go_sem, Int.reduceToNat, Nat.reducePow, Int.reduceEq, Int.reduceNe, Int.reduceLT, Int.reduceLE, Nat.reduceAdd, Nat.reduceLeDiff, ↓reduceIte, Nat.reduceLT, Nat.reduceMul, Nat.reduceSub, reduceCtorEq, frzLoc, rowCells, vAppM, beq_iff_eq, bne_iff_ne, bne_self_eq_false, beq_self_eq_true, beq_true, beq_false, I, B, w, vf37_res, vf37_keep, cx_len, cx_app, cx_own0, cx_own, cx_setOwn0, cx_setOwn, cx_take, cx_takeN, Nat.add_right_cancel_iff, Nat.lt_irrefl, cx_nlt, Nat.not_lt_zero, cx_get' h, cx_setId' h, cx_er h, cx_all0 h, cx_all h, CtxOk.lt h, gt_iff_lt, ge_iff_le, ibeq, hg1, hgc, hgl, c14, c4, c20, c9, c2, c3, c18, c68, c22, m4, m20, m18, ms, hwm, hge, h64g, h64s, h64x, hdr, a1, a2, hid, hb2, hb3, hid2, e75, e70, e77, e85n, e85r, List.length_map, hx, hx4]))))
          refine hp _ _ _ _ (.inr ⟨_, ?_, rfl⟩) ⟨rfl, ?_, rfl, rfl, rfl, rfl⟩ (by simp)
          · first | (rw [List.map_append, hr0]; simp [pT_row, nT_row, gNm_row, nmT_row, bxr, Tm.row_mk, gold, silver, exx]; done) | (rw [List.map_append]; simp [pT_row, nT_row, gNm_row, nmT_row, bxr, Tm.row_mk, gold, silver, exx]; done)
          · (simp only [cx_takeN, List.take_succ_cons, List.take_zero] <;> try rfl)
    · have hp := hpa
      simp only [paF, hx, Int.reduceEq, or_false, false_or, or_true, true_or, if_true, if_false, or_self] at hp
      clear hpa
      rcases hv with ⟨rfl, rfl, hr0⟩ | ⟨g, rfl, rfl⟩ <;>
      · refine RL_at hat (by (simp only [go_sem, Int.reduceToNat, Nat.reducePow, Int.reduceEq, Int.reduceNe, Int.reduceLT, Int.reduceLE, Nat.reduceAdd, Nat.reduceLeDiff, ↓reduceIte, Nat.reduceLT, Nat.reduceMul, Nat.reduceSub, reduceCtorEq, frzLoc, rowCells, vAppM, beq_iff_eq, bne_iff_ne, bne_self_eq_false, beq_self_eq_true, beq_true, beq_false, I, B, w, cx_len, cx_app, cx_own0, cx_own, cx_setOwn0, cx_setOwn, cx_take, cx_takeN, Nat.add_right_cancel_iff, Nat.lt_irrefl, cx_nlt, Nat.not_lt_zero, cx_get' h, cx_setId' h, cx_er h, cx_all0 h, cx_all h, CtxOk.lt h, hb2, hb3, hid2])) (by (simp only [go_sem, Int.reduceToNat, Nat.reducePow, Int.reduceEq, Int.reduceNe, Int.reduceLT, Int.reduceLE, Nat.reduceAdd, Nat.reduceLeDiff, ↓reduceIte, Nat.reduceLT, Nat.reduceMul, Nat.reduceSub, reduceCtorEq, frzLoc, rowCells, vAppM, beq_iff_eq, bne_iff_ne, bne_self_eq_false, beq_self_eq_true, beq_true, beq_false, I, B, w, cx_len, cx_app, cx_own0, cx_own, cx_setOwn0, cx_setOwn, cx_take, cx_takeN, Nat.add_right_cancel_iff, Nat.lt_irrefl, cx_nlt, Nat.not_lt_zero, cx_get' h, cx_setId' h, cx_er h, cx_all0 h, cx_all h, CtxOk.lt h, hgl, hb2, hb3, hid2])) (vf37L0_go ?_)
        (repeat (first
    | refine RX_seq ?_
    | refine RX_block ?_
    | ((first | refine RX_reg ?_ | refine RX_cond' ?_ | refine RX_draw0 ?_ | refine RX_draw rfl ?_ | refine RX_skip ?_ | refine RX_exit ?_ | refine RX_ret ?_); try (simp only [go_sem, Int.reduceToNat, Nat.reducePow, Int.reduceEq, Int.reduceNe, Int.reduceLT, Int.reduceLE, Nat.reduceAdd, Nat.reduceLeDiff, ↓reduceIte, Nat.reduceLT, Nat.reduceMul, Nat.reduceSub, reduceCtorEq, frzLoc, rowCells, vAppM, beq_iff_eq, bne_iff_ne, bne_self_eq_false, beq_self_eq_true, beq_true, beq_false, I, B, w, vf37_res, vf37_keep, cx_len, cx_app, cx_own0, cx_own, cx_setOwn0, cx_setOwn, cx_take, cx_takeN, Nat.add_right_cancel_iff, Nat.lt_irrefl, cx_nlt, Nat.not_lt_zero, cx_get' h, cx_setId' h, cx_er h, cx_all0 h, cx_all h, CtxOk.lt h, gt_iff_lt, ge_iff_le, ibeq, hg1, hgc, hgl, c14, c4, c20, c9, c2, c3, c18, c68, c22, m4, m20, m18, ms, hwm, hge, h64g, h64s, h64x, hdr, a1, a2, hid, hb2, hb3, hid2, e75, e70, e77, e85n, e85r, List.length_map, hx]))))
        refine hp _ _ _ _ (.inr ⟨_, ?_, rfl⟩) ⟨rfl, ?_, rfl, rfl, rfl, rfl⟩ (by simp)
        · first | (rw [List.map_append, hr0]; simp [pT_row, nT_row, gNm_row, nmT_row, bxr, Tm.row_mk, gold, silver, exx]; done) | (rw [List.map_append]; simp [pT_row, nT_row, gNm_row, nmT_row, bxr, Tm.row_mk, gold, silver, exx]; done)
        · (simp only [cx_takeN, List.take_succ_cons, List.take_zero] <;> try rfl)
    · have hp := hpa
      simp only [paF, hx, Int.reduceEq, or_false, false_or, or_true, true_or, if_true, if_false, or_self] at hp
      clear hpa
      rcases hv with ⟨rfl, rfl, hr0⟩ | ⟨g, rfl, rfl⟩ <;>
      · refine RL_at hat (by (simp only [go_sem, Int.reduceToNat, Nat.reducePow, Int.reduceEq, Int.reduceNe, Int.reduceLT, Int.reduceLE, Nat.reduceAdd, Nat.reduceLeDiff, ↓reduceIte, Nat.reduceLT, Nat.reduceMul, Nat.reduceSub, reduceCtorEq, frzLoc, rowCells, vAppM, beq_iff_eq, bne_iff_ne, bne_self_eq_false, beq_self_eq_true, beq_true, beq_false, I, B, w, cx_len, cx_app, cx_own0, cx_own, cx_setOwn0, cx_setOwn, cx_take, cx_takeN, Nat.add_right_cancel_iff, Nat.lt_irrefl, cx_nlt, Nat.not_lt_zero, cx_get' h, cx_setId' h, cx_er h, cx_all0 h, cx_all h, CtxOk.lt h, hb2, hb3, hid2])) (by (simp only [go_sem, Int.reduceToNat, Nat.reducePow, Int.reduceEq, Int.reduceNe, Int.reduceLT, Int.reduceLE, Nat.reduceAdd, Nat.reduceLeDiff, ↓reduceIte, Nat.reduceLT, Nat.reduceMul, Nat.reduceSub, reduceCtorEq, frzLoc, rowCells, vAppM, beq_iff_eq, bne_iff_ne, bne_self_eq_false, beq_self_eq_true, beq_true, beq_false, I, B, w, cx_len, cx_app, cx_own0, cx_own, cx_setOwn0, cx_setOwn, cx_take, cx_takeN, Nat.add_right_cancel_iff, Nat.lt_irrefl, cx_nlt, Nat.not_lt_zero, cx_get' h, cx_setId' h, cx_er h, cx_all0 h, cx_all h, CtxOk.lt h, hgl, hb2, hb3, hid2])) (vf37L0_go ?_)
        (repeat (first
    | refine RX_seq ?_
    | refine RX_block ?_
    | ((first | refine RX_reg ?_ | refine RX_cond' ?_ | refine RX_draw0 ?_ | refine RX_draw rfl ?_ | refine RX_skip ?_ | refine RX_exit ?_ | refine RX_ret ?_); try (simp only [go_sem, Int.reduceToNat, Nat.reducePow, Int.reduceEq, Int.reduceNe, Int.reduceLT, Int.reduceLE, Nat.reduceAdd, Nat.reduceLeDiff, ↓reduceIte, Nat.reduceLT, Nat.reduceMul, Nat.reduceSub, reduceCtorEq, frzLoc, rowCells, vAppM, beq_iff_eq, bne_iff_ne, bne_self_eq_false, beq_self_eq_true, beq_true, beq_false, I, B, w, vf37_res, vf37_keep, cx_len, cx_app, cx_own0, cx_own, cx_setOwn0, cx_setOwn, cx_take, cx_takeN, Nat.add_right_cancel_iff, Nat.lt_irrefl, cx_nlt, Nat.not_lt_zero, cx_get' h, cx_setId' h, cx_er h, cx_all0 h, cx_all h, CtxOk.lt h, gt_iff_lt, ge_iff_le, ibeq, hg1, hgc, hgl, c14, c4, c20, c9, c2, c3, c18, c68, c22, m4, m20, m18, ms, hwm, hge, h64g, h64s, h64x, hdr, a1, a2, hid, hb2, hb3, hid2, e75, e70, e77, e85n, e85r, List.length_map, hx]))))
        refine hp _ _ _ _ (.inr ⟨_, ?_, rfl⟩) ⟨rfl, ?_, rfl, rfl, rfl, rfl⟩ (by simp)
        · first | (rw [List.map_append, hr0]; simp [pT_row, nT_row, gNm_row, nmT_row, bxr, Tm.row_mk, gold, silver, exx]; done) | (rw [List.map_append]; simp [pT_row, nT_row, gNm_row, nmT_row, bxr, Tm.row_mk, gold, silver, exx]; done)
        · (simp only [cx_takeN, List.take_succ_cons, List.take_zero] <;> try rfl)
    · have hp := hpa
      simp only [paF, hx, Int.reduceEq, or_false, false_or, or_true, true_or, if_true, if_false, or_self] at hp
      clear hpa
      rcases hv with ⟨rfl, rfl, hr0⟩ | ⟨g, rfl, rfl⟩ <;>
      · refine RL_at hat (by (simp only [go_sem, Int.reduceToNat, Nat.reducePow, Int.reduceEq, Int.reduceNe, Int.reduceLT, Int.reduceLE, Nat.reduceAdd, Nat.reduceLeDiff, ↓reduceIte, Nat.reduceLT, Nat.reduceMul, Nat.reduceSub, reduceCtorEq, frzLoc, rowCells, vAppM, beq_iff_eq, bne_iff_ne, bne_self_eq_false, beq_self_eq_true, beq_true, beq_false, I, B, w, cx_len, cx_app, cx_own0, cx_own, cx_setOwn0, cx_setOwn, cx_take, cx_takeN, Nat.add_right_cancel_iff, Nat.lt_irrefl, cx_nlt, Nat.not_lt_zero, cx_get' h, cx_setId' h, cx_er h, cx_all0 h, cx_all h, CtxOk.lt h, hb2, hb3, hid2])) (by (simp only [go_sem, Int.reduceToNat, Nat.reducePow, Int.reduceEq, Int.reduceNe, Int.reduceLT, Int.reduceLE, Nat.reduceAdd, Nat.reduceLeDiff, ↓reduceIte, Nat.reduceLT, Nat.reduceMul, Nat.reduceSub, reduceCtorEq, frzLoc, rowCells, vAppM, beq_iff_eq, bne_iff_ne, bne_self_eq_false, beq_self_eq_true, beq_true, beq_false, I, B, w, cx_len, cx_app, cx_own0, cx_own, cx_setOwn0, cx_setOwn, cx_take, cx_takeN, Nat.add_right_cancel_iff, Nat.lt_irrefl, cx_nlt, Nat.not_lt_zero, cx_get' h, cx_setId' h, cx_er h, cx_all0 h, cx_all h, CtxOk.lt h, hgl, hb2, hb3, hid2])) (vf37L0_go ?_)
        (repeat (first
    | refine RX_seq ?_
    | refine RX_block ?_
    | ((first | refine RX_reg ?_ | refine RX_cond' ?_ | refine RX_draw0 ?_ | refine RX_draw rfl ?_ | refine RX_skip ?_ | refine RX_exit ?_ | refine RX_ret ?_); try (simp only [go_sem, Int.reduceToNat, Nat.reducePow, Int.reduceEq, Int.reduceNe, Int.reduceLT, Int.reduceLE, Nat.reduceAdd, Nat.reduceLeDiff, ↓reduceIte, Nat.reduceLT, Nat.reduceMul, Nat.reduceSub, reduceCtorEq, frzLoc, rowCells, vAppM, beq_iff_eq, bne_iff_ne, bne_self_eq_false, beq_self_eq_true, beq_true, beq_false, I, B, w, vf37_res, vf37_keep, cx_len, cx_app, cx_own0, cx_own, cx_setOwn0, cx_setOwn, cx_take, cx_takeN, Nat.add_right_cancel_iff, Nat.lt_irrefl, cx_nlt, Nat.not_lt_zero, cx_get' h, cx_setId' h, cx_er h, cx_all0 h, cx_all h, CtxOk.lt h, gt_iff_lt, ge_iff_le, ibeq, hg1, hgc, hgl, c14, c4, c20, c9, c2, c3, c18, c68, c22, m4, m20, m18, ms, hwm, hge, h64g, h64s, h64x, hdr, a1, a2, hid, hb2, hb3, hid2, e75, e70, e77, e85n, e85r, List.length_map, hx]))))
        refine hp _ _ _ _ (.inr ⟨_, ?_, rfl⟩) ⟨rfl, ?_, rfl, rfl, rfl, rfl⟩ (by simp)
        · first | (rw [List.map_append, hr0]; simp [pT_row, nT_row, gNm_row, nmT_row, bxr, Tm.row_mk, gold, silver, exx]; done) | (rw [List.map_append]; simp [pT_row, nT_row, gNm_row, nmT_row, bxr, Tm.row_mk, gold, silver, exx]; done)
        · (simp only [cx_takeN, List.take_succ_cons, List.take_zero] <;> try rfl)
    · have hp := hpa
      simp only [paF, hx, Int.reduceEq, or_false, false_or, or_true, true_or, if_true, if_false, or_self] at hp
      clear hpa
      rcases hv with ⟨rfl, rfl, hr0⟩ | ⟨g, rfl, rfl⟩ <;>
      · refine RL_at hat (by (simp only [go_sem, Int.reduceToNat, Nat.reducePow, Int.reduceEq, Int.reduceNe, Int.reduceLT, Int.reduceLE, Nat.reduceAdd, Nat.reduceLeDiff, ↓reduceIte, Nat.reduceLT, Nat.reduceMul, Nat.reduceSub, reduceCtorEq, frzLoc, rowCells, vAppM, beq_iff_eq, bne_iff_ne, bne_self_eq_false, beq_self_eq_true, beq_true, beq_false, I, B, w, cx_len, cx_app, cx_own0, cx_own, cx_setOwn0, cx_setOwn, cx_take, cx_takeN, Nat.add_right_cancel_iff, Nat.lt_irrefl, cx_nlt, Nat.not_lt_zero, cx_get' h, cx_setId' h, cx_er h, cx_all0 h, cx_all h, CtxOk.lt h, hb2, hb3, hid2])) (by (simp only [go_sem, Int.reduceToNat, Nat.reducePow, Int.reduceEq, Int.reduceNe, Int.reduceLT, Int.reduceLE, Nat.reduceAdd, Nat.reduceLeDiff, ↓reduceIte, Nat.reduceLT, Nat.reduceMul, Nat.reduceSub, reduceCtorEq, frzLoc, rowCells, vAppM, beq_iff_eq, bne_iff_ne, bne_self_eq_false, beq_self_eq_true, beq_true, beq_false, I, B, w, cx_len, cx_app, cx_own0, cx_own, cx_setOwn0, cx_setOwn, cx_take, cx_takeN, Nat.add_right_cancel_iff, Nat.lt_irrefl, cx_nlt, Nat.not_lt_zero, cx_get' h, cx_setId' h, cx_er h, cx_all0 h, cx_all h, CtxOk.lt h, hgl, hb2, hb3, hid2])) (vf37L0_go ?_)
        (repeat (first
    | refine RX_seq ?_
    | refine RX_block ?_
    | ((first | refine RX_reg ?_ | refine RX_cond' ?_ | refine RX_draw0 ?_ | refine RX_draw rfl ?_ | refine RX_skip ?_ | refine RX_exit ?_ | refine RX_ret ?_); try (simp only [go_sem, Int.reduceToNat, Nat.reducePow, Int.reduceEq, Int.reduceNe, Int.reduceLT, Int.reduceLE, Nat.reduceAdd, Nat.reduceLeDiff, ↓reduceIte, Nat.reduceLT, Nat.reduceMul, Nat.reduceSub, reduceCtorEq, frzLoc, rowCells, vAppM, beq_iff_eq, bne_iff_ne, bne_self_eq_false, beq_self_eq_true, beq_true, beq_false, I, B, w, vf37_res, vf37_keep, cx_len, cx_app, cx_own0, cx_own, cx_setOwn0, cx_setOwn, cx_take, cx_takeN, Nat.add_right_cancel_iff, Nat.lt_irrefl, cx_nlt, Nat.not_lt_zero, cx_get' h, cx_setId' h, cx_er h, cx_all0 h, cx_all h, CtxOk.lt h, gt_iff_lt, ge_iff_le, ibeq, hg1, hgc, hgl, c14, c4, c20, c9, c2, c3, c18, c68, c22, m4, m20, m18, ms, hwm, hge, h64g, h64s, h64x, hdr, a1, a2, hid, hb2, hb3, hid2, e75, e70, e77, e85n, e85r, List.length_map, hx]))))
        refine hp _ _ _ _ (.inr ⟨_, ?_, rfl⟩) ⟨rfl, ?_, rfl, rfl, rfl, rfl⟩ (by simp)
        · first | (rw [List.map_append, hr0]; simp [pT_row, nT_row, gNm_row, nmT_row, bxr, Tm.row_mk, gold, silver, exx]; done) | (rw [List.map_append]; simp [pT_row, nT_row, gNm_row, nmT_row, bxr, Tm.row_mk, gold, silver, exx]; done)
        · (simp only [cx_takeN, List.take_succ_cons, List.take_zero] <;> try rfl)
    · have hp := hpa
      simp only [paF, hx, Int.reduceEq, or_false, false_or, or_true, true_or, if_true, if_false, or_self] at hp
      clear hpa
      rcases hv with ⟨rfl, rfl, hr0⟩ | ⟨g, rfl, rfl⟩ <;>
      · refine RL_at hat (by (simp only [go_sem, Int.reduceToNat, Nat.reducePow, Int.reduceEq, Int.reduceNe, Int.reduceLT, Int.reduceLE, Nat.reduceAdd, Nat.reduceLeDiff, ↓reduceIte, Nat.reduceLT, Nat.reduceMul, Nat.reduceSub, reduceCtorEq, frzLoc, rowCells, vAppM, beq_iff_eq, bne_iff_ne, bne_self_eq_false, beq_self_eq_true, beq_true, beq_false, I, B, w, cx_len, cx_app, cx_own0, cx_own, cx_setOwn0, cx_setOwn, cx_take, cx_takeN, Nat.add_right_cancel_iff, Nat.lt_irrefl, cx_nlt, Nat.not_lt_zero, cx_get' h, cx_setId' h, cx_er h, cx_all0 h, cx_all h, CtxOk.lt h, hb2, hb3, hid2])) (by (simp only [go_sem, Int.reduceToNat, Nat.reducePow, Int.reduceEq, Int.reduceNe, Int.reduceLT, Int.reduceLE, Nat.reduceAdd, Nat.reduceLeDiff, ↓reduceIte, Nat.reduceLT, Nat.reduceMul, Nat.reduceSub, reduceCtorEq, frzLoc, rowCells, vAppM, beq_iff_eq, bne_iff_ne, bne_self_eq_false, beq_self_eq_true, beq_true, beq_false, I, B, w, cx_len, cx_app, cx_own0, cx_own, cx_setOwn0, cx_setOwn, cx_take, cx_takeN, Nat.add_right_cancel_iff, Nat.lt_irrefl, cx_nlt, Nat.not_lt_zero, cx_get' h, cx_setId' h, cx_er h, cx_all0 h, cx_all h, CtxOk.lt h, hgl, hb2, hb3, hid2])) (vf37L0_go ?_)
        (repeat (first
    | refine RX_seq ?_
    | refine RX_block ?_
    | ((first | refine RX_reg ?_ | refine RX_cond' ?_ | refine RX_draw0 ?_ | refine RX_draw rfl ?_ | refine RX_skip ?_ | refine RX_exit ?_ | refine RX_ret ?_); try (simp only [go_sem, Int.reduceToNat, Nat.reducePow, Int.reduceEq, Int.reduceNe, Int.reduceLT, Int.reduceLE, Nat.reduceAdd, Nat.reduceLeDiff, ↓reduceIte, Nat.reduceLT, Nat.reduceMul, Nat.reduceSub, reduceCtorEq, frzLoc, rowCells, vAppM, beq_iff_eq, bne_iff_ne, bne_self_eq_false, beq_self_eq_true, beq_true, beq_false, I, B, w, vf37_res, vf37_keep, cx_len, cx_app, cx_own0, cx_own, cx_setOwn0, cx_setOwn, cx_take, cx_takeN, Nat.add_right_cancel_iff, Nat.lt_irrefl, cx_nlt, Nat.not_lt_zero, cx_get' h, cx_setId' h, cx_er h, cx_all0 h, cx_all h, CtxOk.lt h, gt_iff_lt, ge_iff_le, ibeq, hg1, hgc, hgl, c14, c4, c20, c9, c2, c3, c18, c68, c22, m4, m20, m18, ms, hwm, hge, h64g, h64s, h64x, hdr, a1, a2, hid, hb2, hb3, hid2, e75, e70, e77, e85n, e85r, List.length_map, hx]))))
        refine hp _ _ _ _ (.inr ⟨_, ?_, rfl⟩) ⟨rfl, ?_, rfl, rfl, rfl, rfl⟩ (by simp)
        · first | (rw [List.map_append, hr0]; simp [pT_row, nT_row, gNm_row, nmT_row, bxr, Tm.row_mk, gold, silver, exx]; done) | (rw [List.map_append]; simp [pT_row, nT_row, gNm_row, nmT_row, bxr, Tm.row_mk, gold, silver, exx]; done)
        · (simp only [cx_takeN, List.take_succ_cons, List.take_zero] <;> try rfl)
    · have hp := hpa
      simp only [paF, hx, Int.reduceEq, or_false, false_or, or_true, true_or, if_true, if_false, or_self] at hp
      clear hpa
      rcases hv with ⟨rfl, rfl, hr0⟩ | ⟨g, rfl, rfl⟩ <;>
      · refine RL_at hat (by (simp only [go_sem, Int.reduceToNat, Nat.reducePow, Int.reduceEq, Int.reduceNe, Int.reduceLT, Int.reduceLE, Nat.reduceAdd, Nat.reduceLeDiff, ↓reduceIte, Nat.reduceLT, Nat.reduceMul, Nat.reduceSub, reduceCtorEq, frzLoc, rowCells, vAppM, beq_iff_eq, bne_iff_ne, bne_self_eq_false, beq_self_eq_true, beq_true, beq_false, I, B, w, cx_len, cx_app, cx_own0, cx_own, cx_setOwn0, cx_setOwn, cx_take, cx_takeN, Nat.add_right_cancel_iff, Nat.lt_irrefl, cx_nlt, Nat.not_lt_zero, cx_get' h, cx_setId' h, cx_er h, cx_all0 h, cx_all h, CtxOk.lt h, hb2, hb3, hid2])) (by (simp only [go_sem, Int.reduceToNat, Nat.reducePow, Int.reduceEq, Int.reduceNe, Int.reduceLT, Int.reduceLE, Nat.reduceAdd, Nat.reduceLeDiff, ↓reduceIte, Nat.reduceLT, Nat.reduceMul, Nat.reduceSub, reduceCtorEq, frzLoc, rowCells, vAppM, beq_iff_eq, bne_iff_ne, bne_self_eq_false, beq_self_eq_true, beq_true, beq_false, I, B, w, cx_len, cx_app, cx_own0, cx_own, cx_setOwn0, cx_setOwn, cx_take, cx_takeN, Nat.add_right_cancel_iff, Nat.lt_irrefl, cx_nlt, Nat.not_lt_zero, cx_get' h, cx_setId' h, cx_er h, cx_all0 h, cx_all h, CtxOk.lt h, hgl, hb2, hb3, hid2])) (vf37L0_go ?_)
        (repeat (first
    | refine RX_seq ?_
    | refine RX_block ?_
    | ((first | refine RX_reg ?_ | refine RX_cond' ?_ | refine RX_draw0 ?_ | refine RX_draw rfl ?_ | refine RX_skip ?_ | refine RX_exit ?_ | refine RX_ret ?_); try (simp only [go_sem, Int.reduceToNat, Nat.reducePow, Int.reduceEq, Int.reduceNe, Int.reduceLT, Int.reduceLE, Nat.reduceAdd, Nat.reduceLeDiff, ↓reduceIte, Nat.reduceLT, Nat.reduceMul, Nat.reduceSub, reduceCtorEq, frzLoc, rowCells, vAppM, beq_iff_eq, bne_iff_ne, bne_self_eq_false, beq_self_eq_true, beq_true, beq_false, I, B, w, vf37_res, vf37_keep, cx_len, cx_app, cx_own0, cx_own, cx_setOwn0, cx_setOwn, cx_take, cx_takeN, Nat.add_right_cancel_iff, Nat.lt_irrefl, cx_nlt, Nat.not_lt_zero, cx_get' h, cx_setId' h, cx_er h, cx_all0 h, cx_all h, CtxOk.lt h, gt_iff_lt, ge_iff_le, ibeq, hg1, hgc, hgl, c14, c4, c20, c9, c2, c3, c18, c68, c22, m4, m20, m18, ms, hwm, hge, h64g, h64s, h64x, hdr, a1, a2, hid, hb2, hb3, hid2, e75, e70, e77, e85n, e85r, List.length_map, hx]))))
        refine hp _ _ _ _ (.inr ⟨_, ?_, rfl⟩) ⟨rfl, ?_, rfl, rfl, rfl, rfl⟩ (by simp)
        · first | (rw [List.map_append, hr0]; simp [pT_row, nT_row, gNm_row, nmT_row, bxr, Tm.row_mk, gold, silver, exx]; done) | (rw [List.map_append]; simp [pT_row, nT_row, gNm_row, nmT_row, bxr, Tm.row_mk, gold, silver, exx]; done)
        · (simp only [cx_takeN, List.take_succ_cons, List.take_zero] <;> try rfl)
    · have hp := hpa
      simp only [paF, hx, Int.reduceEq, or_false, false_or, or_true, true_or, if_true, if_false, or_self] at hp
      clear hpa
      rcases hv with ⟨rfl, rfl, hr0⟩ | ⟨g, rfl, rfl⟩ <;>
      · refine RL_at hat (by (simp only [go_sem, Int.reduceToNat, Nat.reducePow, Int.reduceEq, Int.reduceNe, Int.reduceLT, Int.reduceLE, Nat.reduceAdd, Nat.reduceLeDiff, ↓reduceIte, Nat.reduceLT, Nat.reduceMul, Nat.reduceSub, reduceCtorEq, frzLoc, rowCells, vAppM, beq_iff_eq, bne_iff_ne, bne_self_eq_false, beq_self_eq_true, beq_true, beq_false, I, B, w, cx_len, cx_app, cx_own0, cx_own, cx_setOwn0, cx_setOwn, cx_take, cx_takeN, Nat.add_right_cancel_iff, Nat.lt_irrefl, cx_nlt, Nat.not_lt_zero, cx_get' h, cx_setId' h, cx_er h, cx_all0 h, cx_all h, CtxOk.lt h, hb2, hb3, hid2])) (by (simp only [go_sem, Int.reduceToNat, Nat.reducePow, Int.reduceEq, Int.reduceNe, Int.reduceLT, Int.reduceLE, Nat.reduceAdd, Nat.reduceLeDiff, ↓reduceIte, Nat.reduceLT, Nat.reduceMul, Nat.reduceSub, reduceCtorEq, frzLoc, rowCells, vAppM, beq_iff_eq, bne_iff_ne, bne_self_eq_false, beq_self_eq_true, beq_true, beq_false, I, B, w, cx_len, cx_app, cx_own0, cx_own, cx_setOwn0, cx_setOwn, cx_take, cx_takeN, Nat.add_right_cancel_iff, Nat.lt_irrefl, cx_nlt, Nat.not_lt_zero, cx_get' h, cx_setId' h, cx_er h, cx_all0 h, cx_all h, CtxOk.lt h, hgl, hb2, hb3, hid2])) (vf37L0_go ?_)
        (repeat (first
    | refine RX_seq ?_
    | refine RX_block ?_
    | ((first | refine RX_reg ?_ | refine RX_cond' ?_ | refine RX_draw0 ?_ | refine RX_draw rfl ?_ | refine RX_skip ?_ | refine RX_exit ?_ | refine RX_ret ?_); try (simp only [go_sem, Int.reduceToNat, Nat.reducePow, Int.reduceEq, Int.reduceNe, Int.reduceLT, Int.reduceLE, Nat.reduceAdd, Nat.reduceLeDiff, ↓reduceIte, Nat.reduceLT, Nat.reduceMul, Nat.reduceSub, reduceCtorEq, frzLoc, rowCells, vAppM, beq_iff_eq, bne_iff_ne, bne_self_eq_false, beq_self_eq_true, beq_true, beq_false, I, B, w, vf37_res, vf37_keep, cx_len, cx_app, cx_own0, cx_own, cx_setOwn0, cx_setOwn, cx_take, cx_takeN, Nat.add_right_cancel_iff, Nat.lt_irrefl, cx_nlt, Nat.not_lt_zero, cx_get' h, cx_setId' h, cx_er h, cx_all0 h, cx_all h, CtxOk.lt h, gt_iff_lt, ge_iff_le, ibeq, hg1, hgc, hgl, c14, c4, c20, c9, c2, c3, c18, c68, c22, m4, m20, m18, ms, hwm, hge, h64g, h64s, h64x, hdr, a1, a2, hid, hb2, hb3, hid2, e75, e70, e77, e85n, e85r, List.length_map, hx]))))
        refine hp _ _ _ _ (.inr ⟨_, ?_, rfl⟩) ⟨rfl, ?_, rfl, rfl, rfl, rfl⟩ (by simp)
        · first | (rw [List.map_append, hr0]; simp [pT_row, nT_row, gNm_row, nmT_row, bxr, Tm.row_mk, gold, silver, exx]; done) | (rw [List.map_append]; simp [pT_row, nT_row, gNm_row, nmT_row, bxr, Tm.row_mk, gold, silver, exx]; done)
        · (simp only [cx_takeN, List.take_succ_cons, List.take_zero] <;> try rfl)
    · have hp := hpa
      simp only [paF, hx, Int.reduceEq, or_false, false_or, or_true, true_or, if_true, if_false, or_self] at hp
      clear hpa
      rcases hx2 with hx2 | hx2
      all_goals
        simp only [paNm, hx2, Int.reduceEq, if_true, if_false] at hp
        rcases hv with ⟨rfl, rfl, hr0⟩ | ⟨g, rfl, rfl⟩ <;>
        · refine RL_at hat (by (simp only [go_sem, Int.reduceToNat, Nat.reducePow, Int.reduceEq, Int.reduceNe, Int.reduceLT, Int.reduceLE, Nat.reduceAdd, Nat.reduceLeDiff, ↓reduceIte, Nat.reduceLT, Nat.reduceMul, Nat.reduceSub, reduceCtorEq, frzLoc, rowCells, vAppM, beq_iff_eq, bne_iff_ne, bne_self_eq_false, beq_self_eq_true, beq_true, beq_false, I, B, w, cx_len, cx_app, cx_own0, cx_own, cx_setOwn0, cx_setOwn, cx_take, cx_takeN, Nat.add_right_cancel_iff, Nat.lt_irrefl, cx_nlt, Nat.not_lt_zero, cx_get' h, cx_setId' h, cx_er h, cx_all0 h, cx_all h, CtxOk.lt h, hb2, hb3, hid2])) (by (simp only [go_sem, Int.reduceToNat, Nat.reducePow, Int.reduceEq, Int.reduceNe, Int.reduceLT, Int.reduceLE, Nat.reduceAdd, Nat.reduceLeDiff, ↓reduceIte, Nat.reduceLT, Nat.reduceMul, Nat.reduceSub, reduceCtorEq, frzLoc, rowCells, vAppM, beq_iff_eq, bne_iff_ne, bne_self_eq_false, beq_self_eq_true, beq_true, beq_false, I, B, w, cx_len, cx_app, cx_own0, cx_own, cx_setOwn0, cx_setOwn, cx_take, cx_takeN, Nat.add_right_cancel_iff, Nat.lt_irrefl, cx_nlt, Nat.not_lt_zero, cx_get' h, cx_setId' h, cx_er h, cx_all0 h, cx_all h, CtxOk.lt h, hgl, hb2, hb3, hid2])) (vf37L0_go ?_)
          (repeat (first
    | refine RX_seq ?_
    | refine RX_block ?_
    | ((first | refine RX_reg ?_ | refine RX_cond' ?_ | refine RX_draw0 ?_ | refine RX_draw rfl ?_ | refine RX_skip ?_ | refine RX_exit ?_ | refine RX_ret ?_); try (simp only [go_sem, Int.reduceToNat, Nat.reducePow, Int.reduceEq, Int.reduceNe, Int.reduceLT, Int.reduceLE, Nat.reduceAdd, Nat.reduceLeDiff, ↓reduceIte, Nat.reduceLT, Nat.reduceMul, Nat.reduceSub, reduceCtorEq, frzLoc, rowCells, vAppM, beq_iff_eq, bne_iff_ne, bne_self_eq_false, beq_self_eq_true, beq_true, beq_false, I, B, w, vf37_res, vf37_keep, cx_len, cx_app, cx_own0, cx_own, cx_setOwn0, cx_setOwn, cx_take, cx_takeN, Nat.add_right_cancel_iff, Nat.lt_irrefl, cx_nlt, Nat.not_lt_zero, cx_get' h, cx_setId' h, cx_er h, cx_all0 h, cx_all h, CtxOk.lt h, gt_iff_lt, ge_iff_le, ibeq, hg1, hgc, hgl, c14, c4, c20, c9, c2, c3, c18, c68, c22, m4, m20, m18, ms, hwm, hge, h64g, h64s, h64x, hdr, a1, a2, hid, hb2, hb3, hid2, e75, e70, e77, e85n, e85r, List.length_map, hx, hx2]))))
          refine hp _ _ _ _ (.inr ⟨_, ?_, rfl⟩) ⟨rfl, ?_, rfl, rfl, rfl, rfl⟩ (by simp)
          · first | (rw [List.map_append, hr0]; simp [pT_row, nT_row, gNm_row, nmT_row, bxr, Tm.row_mk, gold, silver, exx]; done) | (rw [List.map_append]; simp [pT_row, nT_row, gNm_row, nmT_row, bxr, Tm.row_mk, gold, silver, exx]; done)
          · (simp only [cx_takeN, List.take_succ_cons, List.take_zero] <;> try rfl)
    · have hp := hpa
      simp only [paF, hx, Int.reduceEq, or_false, false_or, or_true, true_or, if_true, if_false, or_self] at hp
      clear hpa
      rcases hv with ⟨rfl, rfl, hr0⟩ | ⟨g, rfl, rfl⟩ <;>
      · refine RL_at hat (by (simp only [go_sem, Int.reduceToNat, Nat.reducePow, Int.reduceEq, Int.reduceNe, Int.reduceLT, Int.reduceLE, Nat.reduceAdd, Nat.reduceLeDiff, ↓reduceIte, Nat.reduceLT, Nat.reduceMul, Nat.reduceSub, reduceCtorEq, frzLoc, rowCells, vAppM, beq_iff_eq, bne_iff_ne, bne_self_eq_false, beq_self_eq_true, beq_true, beq_false, I, B, w, cx_len, cx_app, cx_own0, cx_own, cx_setOwn0, cx_setOwn, cx_take, cx_takeN, Nat.add_right_cancel_iff, Nat.lt_irrefl, cx_nlt, Nat.not_lt_zero, cx_get' h, cx_setId' h, cx_er h, cx_all0 h, cx_all h, CtxOk.lt h, hb2, hb3, hid2])) (by (simp only [go_sem, Int.reduceToNat, Nat.reducePow, Int.reduceEq, Int.reduceNe, Int.reduceLT, Int.reduceLE, Nat.reduceAdd, Nat.reduceLeDiff, ↓reduceIte, Nat.reduceLT, Nat.reduceMul, Nat.reduceSub, reduceCtorEq, frzLoc, rowCells, vAppM, beq_iff_eq, bne_iff_ne, bne_self_eq_false, beq_self_eq_true, beq_true, beq_false, I, B, w, cx_len, cx_app, cx_own0, cx_own, cx_setOwn0, cx_setOwn, cx_take, cx_takeN, Nat.add_right_cancel_iff, Nat.lt_irrefl, cx_nlt, Nat.not_lt_zero, cx_get' h, cx_setId' h, cx_er h, cx_all0 h, cx_all h, CtxOk.lt h, hgl, hb2, hb3, hid2])) (vf37L0_go ?_)
        (repeat (first
    | refine RX_seq ?_
    | refine RX_block ?_
    | ((first | refine RX_reg ?_ | refine RX_cond' ?_ | refine RX_draw0 ?_ | refine RX_draw rfl ?_ | refine RX_skip ?_ | refine RX_exit ?_ | refine RX_ret ?_); try (simp only [go_sem, Int.reduceToNat, Nat.reducePow, Int.reduceEq, Int.reduceNe, Int.reduceLT, Int.reduceLE, Nat.reduceAdd, Nat.reduceLeDiff, ↓reduceIte, Nat.reduceLT, Nat.reduceMul, Nat.reduceSub, reduceCtorEq, frzLoc, rowCells, vAppM, beq_iff_eq, bne_iff_ne, bne_self_eq_false, beq_self_eq_true, beq_true, beq_false, I, B, w, vf37_res, vf37_keep, cx_len, cx_app, cx_own0, cx_own, cx_setOwn0, cx_setOwn, cx_take, cx_takeN, Nat.add_right_cancel_iff, Nat.lt_irrefl, cx_nlt, Nat.not_lt_zero, cx_get' h, cx_setId' h, cx_er h, cx_all0 h, cx_all h, CtxOk.lt h, gt_iff_lt, ge_iff_le, ibeq, hg1, hgc, hgl, c14, c4, c20, c9, c2, c3, c18, c68, c22, m4, m20, m18, ms, hwm, hge, h64g, h64s, h64x, hdr, a1, a2, hid, hb2, hb3, hid2, e75, e70, e77, e85n, e85r, List.length_map, hx]))))
        refine hp _ _ _ _ (.inr ⟨_, ?_, rfl⟩) ⟨rfl, ?_, rfl, rfl, rfl, rfl⟩ (by simp)
        · first | (rw [List.map_append, hr0]; simp [pT_row, nT_row, gNm_row, nmT_row, bxr, Tm.row_mk, gold, silver, exx]; done) | (rw [List.map_append]; simp [pT_row, nT_row, gNm_row, nmT_row, bxr, Tm.row_mk, gold, silver, exx]; done)
        · (simp only [cx_takeN, List.take_succ_cons, List.take_zero] <;> try rfl)
    · have hp := hpa
      simp only [paF, hx, Int.reduceEq, or_false, false_or, or_true, true_or, if_true, if_false, or_self] at hp
      clear hpa
      rcases hx3 with hx3 | hx3 | hx3
      all_goals
        simp only [paNm, hx3, Int.reduceEq, if_true, if_false] at hp
        rcases hv with ⟨rfl, rfl, hr0⟩ | ⟨g, rfl, rfl⟩ <;>
        · refine RL_at hat (by (simp only [go_sem, Int.reduceToNat, Nat.reducePow, Int.reduceEq, Int.reduceNe, Int.reduceLT, Int.reduceLE, Nat.reduceAdd, Nat.reduceLeDiff, ↓reduceIte, Nat.reduceLT, Nat.reduceMul, Nat.reduceSub, reduceCtorEq, frzLoc, rowCells, vAppM, beq_iff_eq, bne_iff_ne, bne_self_eq_false, beq_self_eq_true, beq_true, beq_false, I, B, w, cx_len, cx_app, cx_own0, cx_own, cx_setOwn0, cx_setOwn, cx_take, cx_takeN, Nat.add_right_cancel_iff, Nat.lt_irrefl, cx_nlt, Nat.not_lt_zero, cx_get' h, cx_setId' h, cx_er h, cx_all0 h, cx_all h, CtxOk.lt h, hb2, hb3, hid2])) (by (simp only [go_sem, Int.reduceToNat, Nat.reducePow, Int.reduceEq, Int.reduceNe, Int.reduceLT, Int.reduceLE, Nat.reduceAdd, Nat.reduceLeDiff, ↓reduceIte, Nat.reduceLT, Nat.reduceMul, Nat.reduceSub, reduceCtorEq, frzLoc, rowCells, vAppM, beq_iff_eq, bne_iff_ne, bne_self_eq_false, beq_self_eq_true, beq_true, beq_false, I, B, w, cx_len, cx_app, cx_own0, cx_own, cx_setOwn0, cx_setOwn, cx_take, cx_takeN, Nat.add_right_cancel_iff, Nat.lt_irrefl, cx_nlt, Nat.not_lt_zero, cx_get' h, cx_setId' h, cx_er h, cx_all0 h, cx_all h, CtxOk.lt h, hgl, hb2, hb3, hid2])) (vf37L0_go ?_)
          (repeat (first
    | refine RX_seq ?_
    | refine RX_block ?_
    | ((first | refine RX_reg ?_ | refine RX_cond' ?_ | refine RX_draw0 ?_ | refine RX_draw rfl ?_ | refine RX_skip ?_ | refine RX_exit ?_ | refine RX_ret ?_); try (simp only [go_sem, Int.reduceToNat, Nat.reducePow, Int.reduceEq, Int.reduceNe, Int.reduceLT, Int.reduceLE, Nat.reduceAdd, Nat.reduceLeDiff, ↓reduceIte, Nat.reduceLT, Nat.reduceMul, Nat.reduceSub, reduceCtorEq, frzLoc, rowCells, vAppM, beq_iff_eq, bne_iff_ne, bne_self_eq_false, beq_self_eq_true, beq_true, beq_false, I, B, w, vf37_res, vf37_keep, cx_len, cx_app, cx_own0, cx_own, cx_setOwn0, cx_setOwn, cx_take, cx_takeN, Nat.add_right_cancel_iff, Nat.lt_irrefl, cx_nlt, Nat.not_lt_zero, cx_get' h, cx_setId' h, cx_er h, cx_all0 h, cx_all h, CtxOk.lt h, gt_iff_lt, ge_iff_le, ibeq, hg1, hgc, hgl, c14, c4, c20, c9, c2, c3, c18, c68, c22, m4, m20, m18, ms, hwm, hge, h64g, h64s, h64x, hdr, a1, a2, hid, hb2, hb3, hid2, e75, e70, e77, e85n, e85r, List.length_map, hx, hx3]))))
          refine hp _ _ _ _ (.inr ⟨_, ?_, rfl⟩) ⟨rfl, ?_, rfl, rfl, rfl, rfl⟩ (by simp)
          · first | (rw [List.map_append, hr0]; simp [pT_row, nT_row, gNm_row, nmT_row, bxr, Tm.row_mk, gold, silver, exx]; done) | (rw [List.map_append]; simp [pT_row, nT_row, gNm_row, nmT_row, bxr, Tm.row_mk, gold, silver, exx]; done)
          · (simp only [cx_takeN, List.take_succ_cons, List.take_zero] <;> try rfl)
    · have hp := hpa
      simp only [paF, hx, Int.reduceEq, or_false, false_or, or_true, true_or, if_true, if_false, or_self] at hp
      clear hpa
      rcases hv with ⟨rfl, rfl, hr0⟩ | ⟨g, rfl, rfl⟩ <;>
      · refine RL_at hat (by (simp only [go_sem, Int.reduceToNat, Nat.reducePow, Int.reduceEq, Int.reduceNe, Int.reduceLT, Int.reduceLE, Nat.reduceAdd, Nat.reduceLeDiff, ↓reduceIte, Nat.reduceLT, Nat.reduceMul, Nat.reduceSub, reduceCtorEq, frzLoc, rowCells, vAppM, beq_iff_eq, bne_iff_ne, bne_self_eq_false, beq_self_eq_true, beq_true, beq_false, I, B, w, cx_len, cx_app, cx_own0, cx_own, cx_setOwn0, cx_setOwn, cx_take, cx_takeN, Nat.add_right_cancel_iff, Nat.lt_irrefl, cx_nlt, Nat.not_lt_zero, cx_get' h, cx_setId' h, cx_er h, cx_all0 h, cx_all h, CtxOk.lt h, hb2, hb3, hid2])) (by (simp only [go_sem, Int.reduceToNat, Nat.reducePow, Int.reduceEq, Int.reduceNe, Int.reduceLT, Int.reduceLE, Nat.reduceAdd, Nat.reduceLeDiff, ↓reduceIte, Nat.reduceLT, Nat.reduceMul, Nat.reduceSub, reduceCtorEq, frzLoc, rowCells, vAppM, beq_iff_eq, bne_iff_ne, bne_self_eq_false, beq_self_eq_true, beq_true, beq_false, I, B, w, cx_len, cx_app, cx_own0, cx_own, cx_setOwn0, cx_setOwn, cx_take, cx_takeN, Nat.add_right_cancel_iff, Nat.lt_irrefl, cx_nlt, Nat.not_lt_zero, cx_get' h, cx_setId' h, cx_er h, cx_all0 h, cx_all h, CtxOk.lt h, hgl, hb2, hb3, hid2])) (vf37L0_go ?_)
        (repeat (first
    | refine RX_seq ?_
    | refine RX_block ?_
    | ((first | refine RX_reg ?_ | refine RX_cond' ?_ | refine RX_draw0 ?_ | refine RX_draw rfl ?_ | refine RX_skip ?_ | refine RX_exit ?_ | refine RX_ret ?_); try (simp only [go_sem, Int.reduceToNat, Nat.reducePow, Int.reduceEq, Int.reduceNe, Int.reduceLT, Int.reduceLE, Nat.reduceAdd, Nat.reduceLeDiff, ↓reduceIte, Nat.reduceLT, Nat.reduceMul, Nat.reduceSub, reduceCtorEq, frzLoc, rowCells, vAppM, beq_iff_eq, bne_iff_ne, bne_self_eq_false, beq_self_eq_true, beq_true, beq_false, I, B, w, vf37_res, vf37_keep, cx_len, cx_app, cx_own0, cx_own, cx_setOwn0, cx_setOwn, cx_take, cx_takeN, Nat.add_right_cancel_iff, Nat.lt_irrefl, cx_nlt, Nat.not_lt_zero, cx_get' h, cx_setId' h, cx_er h, cx_all0 h, cx_all h, CtxOk.lt h, gt_iff_lt, ge_iff_le, ibeq, hg1, hgc, hgl, c14, c4, c20, c9, c2, c3, c18, c68, c22, m4, m20, m18, ms, hwm, hge, h64g, h64s, h64x, hdr, a1, a2, hid, hb2, hb3, hid2, e75, e70, e77, e85n, e85r, List.length_map, hx]))))
        refine hp _ _ _ _ (.inr ⟨_, ?_, rfl⟩) ⟨rfl, ?_, rfl, rfl, rfl, rfl⟩ (by simp)
        · first | (rw [List.map_append, hr0]; simp [pT_row, nT_row, gNm_row, nmT_row, bxr, Tm.row_mk, gold, silver, exx]; done) | (rw [List.map_append]; simp [pT_row, nT_row, gNm_row, nmT_row, bxr, Tm.row_mk, gold, silver, exx]; done)
        · (simp only [cx_takeN, List.take_succ_cons, List.take_zero] <;> try rfl)
end Go.Proofs.Ytahiikdkgbbmfaa

namespace Go.Proofs.Ytahiikdkgbbmfaa
open Go.VM
mutual
def Tm.cmp : Tm → Tm → Int
  | .mk a b ts, .mk x y us => if a < x then -1 else if x < a then 1 else if b < y then -1 else if y < b then 1 else
      if (ts.length : Int) < us.length then -1 else if (us.length : Int) < ts.length then 1 else Tm.cmps ts us
def Tm.cmps : List Tm → List Tm → Int
  | t :: ts, u :: us => if t.cmp u = 0 then Tm.cmps ts us else t.cmp u
  | _, _ => 0
end
theorem Tm.cmps_drop {ts us : List Tm} {i : Nat} {t u : Tm} (h : ts[i]? = some t) (k : us[i]? = some u) : Tm.cmps (ts.drop i) (us.drop i) = if t.cmp u = 0 then Tm.cmps (ts.drop (i + 1)) (us.drop (i + 1)) else t.cmp u := by
  obtain ⟨h1, h2⟩ := List.getElem?_eq_some_iff.1 h
  obtain ⟨k1, k2⟩ := List.getElem?_eq_some_iff.1 k
  rw [List.drop_eq_getElem_cons h1, List.drop_eq_getElem_cons k1, h2, k2, Tm.cmps]
mutual
theorem Tm.cmp_zero : ∀ t u : Tm, decide (t.cmp u = 0) = t.eqb u
  | .mk a b ts, .mk x y us => by
    have ih := Tm.cmps_zero ts us
    rw [Tm.eqb, Tm.cmp]
    by_cases h1 : a < x
    · rw [if_pos h1]; have : (a == x) = false := by simp; omega
      rw [this]; rfl
    rw [if_neg h1]
    by_cases h2 : x < a
    · rw [if_pos h2]; have : (a == x) = false := by simp; omega
      rw [this]; rfl
    rw [if_neg h2]
    have : (a == x) = true := by simp; omega
    rw [this, Bool.true_and]
    by_cases h3 : b < y
    · rw [if_pos h3]; have : (b == y) = false := by simp; omega
      rw [this]; rfl
    rw [if_neg h3]
    by_cases h4 : y < b
    · rw [if_pos h4]; have : (b == y) = false := by simp; omega
      rw [this]; rfl
    rw [if_neg h4]
    have : (b == y) = true := by simp; omega
    rw [this, Bool.true_and]
    by_cases h5 : (ts.length : Int) < us.length
    · rw [if_pos h5, Tm.eqbs_len (by omega)]; rfl
    rw [if_neg h5]
    by_cases h6 : (us.length : Int) < ts.length
    · rw [if_pos h6, Tm.eqbs_len (by omega)]; rfl
    rw [if_neg h6]
    exact ih (by omega)
theorem Tm.cmps_zero : ∀ ts us : List Tm, ts.length = us.length → decide (Tm.cmps ts us = 0) = Tm.eqbs ts us
  | [], [], _ => by simp [Tm.cmps, Tm.eqbs]
  | t :: ts, u :: us, h => by
    have h1 := Tm.cmp_zero t u
    have h2 := Tm.cmps_zero ts us (by simpa using h)
    rw [Tm.cmps, Tm.eqbs]
    by_cases h0 : t.cmp u = 0
    · rw [if_pos h0, h2, ← h1, decide_eq_true h0, Bool.true_and]
    · rw [if_neg h0, ← h1, decide_eq_false h0, Bool.false_and]
  | [], _ :: _, h => by simp at h
  | _ :: _, [], h => by simp at h
end
set_option maxHeartbeats 4000000 in
theorem e119 : ∀ (n : Nat) (t u : Tm), SizeOf.sizeOf t < n → t.small → CV VP 119 [t.ag, u.ag] [] = some ⟨.d (I (t.cmp u)), [], [], 0⟩
  | 0, t, u, h, _ => absurd h (Nat.not_lt_zero _)
  | n + 1, .mk a b ts, .mk x y us, hn, hs => by
    have w0 : IntKind.i64.wrap (0 + 1) = 1 := rfl
    have w1 : IntKind.i64.wrap (1 + 1) = 2 := rfl
    have w2 : IntKind.i64.wrap (2 + 1) = 3 := rfl
    simp only [Tm.ag, Tm.op_mk, Tm.val_mk, Tm.args_mk, Tm.cmp]
    obtain ⟨hs1, hs2⟩ := hs
    refine CV_run (vf := vf119) rfl rfl ?_
    rw [vf119_start]
    have fin : ∀ st0, ts.length = us.length → At vf119K1 2 st0 ((.any :: .any :: .any :: .ptr 1 0 :: .any :: .any :: .any :: .any :: .any :: .any :: .any :: .any :: .any :: .any :: .any :: .any :: .any :: .any :: .any :: .any :: .any :: .any :: .any :: .any :: .any :: .any :: .any :: .any :: .any :: .any :: .any :: .any :: .any :: .any :: .any :: .any :: .any :: .any :: .any :: .any :: .any :: .any :: .any :: .d (.sl (ts.map Tm.row)) :: .d (I (ts.length : Nat)) :: .d (I ((0 : Nat) : Int)) :: .any :: .any :: .any :: .any :: .any :: .any :: .any :: .any :: .any :: .any :: .any :: .any :: .any :: .any :: .any :: [])) [[.d (I a), .d (I b), .d (.sl (ts.map Tm.row))], [.d (I x), .d (I y), .d (.sl (us.map Tm.row))]] [] 0 0 →
        RL VP vf119K1 vf119L1 2 st0 (outQ 2 (thn VP ((VCode.reg [⟨some 4, .mov (.c (.d (.lit (.int .i64 0)))), none⟩]).seq .ret) (retQ vf119 0 ⟨.d (I (Tm.cmps ts us)), [], [], 0⟩))) := by
      intro st0 hl hat0
      refine RL_ind (fun m st => ∃ i : Nat, i + m = ts.length ∧ Tm.cmps (ts.drop i) (us.drop i) = Tm.cmps ts us ∧ At vf119K1 2 st ((.any :: .any :: .any :: .ptr 1 0 :: .any :: .any :: .any :: .any :: .any :: .any :: .any :: .any :: .any :: .any :: .any :: .any :: .any :: .any :: .any :: .any :: .any :: .any :: .any :: .any :: .any :: .any :: .any :: .any :: .any :: .any :: .any :: .any :: .any :: .any :: .any :: .any :: .any :: .any :: .any :: .any :: .any :: .any :: .any :: .d (.sl (ts.map Tm.row)) :: .d (I (ts.length : Nat)) :: .d (I (i : Nat)) :: .any :: .any :: .any :: .any :: .any :: .any :: .any :: .any :: .any :: .any :: .any :: .any :: .any :: .any :: .any :: [])) [[.d (I a), .d (I b), .d (.sl (ts.map Tm.row))], [.d (I x), .d (I y), .d (.sl (us.map Tm.row))]] [] 0 0) ?_ ts.length _ ⟨0, Nat.zero_add _, rfl, hat0⟩
      rintro m st ⟨i, hi, hc, hat⟩ ih
      refine RL_at hat rfl rfl (vf119L1_go ?_)
      clear hat hat0
      cases m with
      | zero =>
        have h1 : ¬ i < ts.length := by omega
        rw [List.drop_eq_nil_of_le (by omega), List.drop_eq_nil_of_le (by omega), Tm.cmps] at hc
        rw [← hc]
        (repeat (first
    | refine RX_seq ?_
    | refine RX_block ?_
    | ((first | refine RX_reg ?_ | refine RX_cond' ?_ | refine RX_draw0 ?_ | refine RX_draw rfl ?_ | refine RX_skip ?_ | refine RX_exit ?_ | refine RX_ret ?_); try (simp only [go_sem, Int.reduceToNat, Nat.reducePow, Int.reduceEq, Int.reduceNe, Int.reduceLT, Int.reduceLE, Nat.reduceAdd, Nat.reduceLeDiff, ↓reduceIte, Nat.reduceLT, Nat.reduceMul, Nat.reduceSub, reduceCtorEq, frzLoc, rowCells, vAppM, beq_iff_eq, bne_iff_ne, bne_self_eq_false, beq_self_eq_true, beq_true, beq_false, I, B, w, vf119_res, vf119_keep, h1]))))
        all_goals simp
      | succ m =>
        have h1 : i < ts.length := by omega
        have h2 : i < us.length := by omega
        obtain ⟨t, ht⟩ : ∃ t, ts[i]? = some t := ⟨_, List.getElem?_eq_getElem h1⟩
        obtain ⟨u, hu⟩ : ∃ u, us[i]? = some u := ⟨_, List.getElem?_eq_getElem h2⟩
        have hrt : (ts.map Tm.row)[i]? = some t.row := by rw [List.getElem?_map, ht]; rfl
        have hru : (us.map Tm.row)[i]? = some u.row := by rw [List.getElem?_map, hu]; rfl
        have h119 := e119 n t u (by
          have := List.sizeOf_lt_of_mem (List.mem_of_getElem? ht)
          simp only [Tm.mk.sizeOf_spec] at hn
          omega) (Tm.smalls_mem hs2 (List.mem_of_getElem? ht))
        rw [Tm.cmps_drop ht hu] at hc
        have hwi := w_nat (i := i) (by omega)
        simp only [Tm.row_eq] at hrt hru
        simp only [Tm.ag] at h119
        by_cases h0 : t.cmp u = 0
        · rw [if_pos h0] at hc
          (repeat (first
    | refine RX_seq ?_
    | refine RX_block ?_
    | ((first | refine RX_reg ?_ | refine RX_cond' ?_ | refine RX_draw0 ?_ | refine RX_draw rfl ?_ | refine RX_skip ?_ | refine RX_exit ?_ | refine RX_ret ?_); try (simp only [go_sem, Int.reduceToNat, Nat.reducePow, Int.reduceEq, Int.reduceNe, Int.reduceLT, Int.reduceLE, Nat.reduceAdd, Nat.reduceLeDiff, ↓reduceIte, Nat.reduceLT, Nat.reduceMul, Nat.reduceSub, reduceCtorEq, frzLoc, rowCells, vAppM, beq_iff_eq, bne_iff_ne, bne_self_eq_false, beq_self_eq_true, beq_true, beq_false, I, B, w, vf119_res, vf119_keep, List.length_map, h1, h2, hrt, hru, h119, h0, hwi]))))
          exact ih m _ (Nat.lt_succ_self m) ⟨i + 1, by omega, hc, rfl, rfl, rfl, rfl, rfl, rfl⟩
        · rw [if_neg h0] at hc
          rw [← hc]
          (repeat (first
    | refine RX_seq ?_
    | refine RX_block ?_
    | ((first | refine RX_reg ?_ | refine RX_cond' ?_ | refine RX_draw0 ?_ | refine RX_draw rfl ?_ | refine RX_skip ?_ | refine RX_exit ?_ | refine RX_ret ?_); try (simp only [go_sem, Int.reduceToNat, Nat.reducePow, Int.reduceEq, Int.reduceNe, Int.reduceLT, Int.reduceLE, Nat.reduceAdd, Nat.reduceLeDiff, ↓reduceIte, Nat.reduceLT, Nat.reduceMul, Nat.reduceSub, reduceCtorEq, frzLoc, rowCells, vAppM, beq_iff_eq, bne_iff_ne, bne_self_eq_false, beq_self_eq_true, beq_true, beq_false, I, B, w, vf119_res, vf119_keep, List.length_map, h1, h2, hrt, hru, h119, ibne, h0, hwi]))))
    (repeat' (first
    | refine RX_seq ?_
    | refine RX_block ?_
    | ((first | refine RX_reg ?_ | refine RX_cond' ?_ | refine RX_draw0 ?_ | refine RX_draw rfl ?_ | refine RX_skip ?_ | refine RX_exit ?_ | refine RX_ret ?_); try (simp only [go_sem, Int.reduceToNat, Nat.reducePow, Int.reduceEq, Int.reduceNe, Int.reduceLT, Int.reduceLE, Nat.reduceAdd, Nat.reduceLeDiff, ↓reduceIte, Nat.reduceLT, Nat.reduceMul, Nat.reduceSub, reduceCtorEq, frzLoc, rowCells, vAppM, bne_self_eq_false, beq_self_eq_true, beq_true, beq_false, I, B, w, ibeq, ibne, bbeq, decide_eq_false_iff_not, decide_not, Bool.not_not, Decidable.not_not, Bool.not_eq_eq_eq_not, gt_iff_lt, ge_iff_le, and_false, false_and, or_self, and_self, vf119_res, vf119_keep, List.length_map, *]))
    | (refine ite_ngo (fun _ => ?_) (fun _ => ?_) <;> try (simp only [go_sem, Int.reduceToNat, Nat.reducePow, Int.reduceEq, Int.reduceNe, Int.reduceLT, Int.reduceLE, Nat.reduceAdd, Nat.reduceLeDiff, ↓reduceIte, Nat.reduceLT, Nat.reduceMul, Nat.reduceSub, reduceCtorEq, frzLoc, rowCells, vAppM, bne_self_eq_false, beq_self_eq_true, beq_true, beq_false, I, B, w, ibeq, ibne, bbeq, decide_eq_false_iff_not, decide_not, Bool.not_not, Decidable.not_not, Bool.not_eq_eq_eq_not, gt_iff_lt, ge_iff_le, and_false, false_and, or_self, and_self, vf119_res, vf119_keep, List.length_map, *]))
    | (refine ite_go (fun _ => ?_) (fun _ => ?_) <;> try (simp only [go_sem, Int.reduceToNat, Nat.reducePow, Int.reduceEq, Int.reduceNe, Int.reduceLT, Int.reduceLE, Nat.reduceAdd, Nat.reduceLeDiff, ↓reduceIte, Nat.reduceLT, Nat.reduceMul, Nat.reduceSub, reduceCtorEq, frzLoc, rowCells, vAppM, bne_self_eq_false, beq_self_eq_true, beq_true, beq_false, I, B, w, ibeq, ibne, bbeq, decide_eq_false_iff_not, decide_not, Bool.not_not, Decidable.not_not, Bool.not_eq_eq_eq_not, gt_iff_lt, ge_iff_le, and_false, false_and, or_self, and_self, vf119_res, vf119_keep, List.length_map, *]))
    | (refine RL_head ?_; simp only [go_sem, Int.reduceToNat, Nat.reducePow, Int.reduceEq, Int.reduceNe, Int.reduceLT, Int.reduceLE, Nat.reduceAdd, Nat.reduceLeDiff, ↓reduceIte, Nat.reduceLT, Nat.reduceMul, Nat.reduceSub, reduceCtorEq, frzLoc, rowCells, vAppM, bne_self_eq_false, beq_self_eq_true, beq_true, beq_false, I, B, w, ibeq, ibne, bbeq, decide_eq_false_iff_not, decide_not, Bool.not_not, Decidable.not_not, Bool.not_eq_eq_eq_not, gt_iff_lt, ge_iff_le, and_false, false_and, or_self, and_self, vf119_res, vf119_keep, List.length_map, *, St.head, forget, vf119K0, RLK_some]; refine vf119L0_go ?_)
    | refine RX_loop ?_))
    exact fin _ (by omega) ⟨rfl, rfl, rfl, rfl, rfl, rfl⟩
theorem e99 (t u : Tm) (hs : t.small) : CV VP 99 [t.ag, u.ag] [] = some ⟨.d (B (t.eqb u)), [], [], 0⟩ := by
  have h := e119 _ t u (Nat.lt_succ_self _) hs
  rw [← Tm.cmp_zero]
  refine CV_run (vf := vf99) rfl rfl ?_
  rw [vf99_start]
  simp only [Tm.ag] at *
  (repeat (first
    | refine RX_seq ?_
    | refine RX_block ?_
    | ((first | refine RX_reg ?_ | refine RX_cond' ?_ | refine RX_draw0 ?_ | refine RX_draw rfl ?_ | refine RX_skip ?_ | refine RX_exit ?_ | refine RX_ret ?_); try (simp only [go_sem, Int.reduceToNat, Nat.reducePow, Int.reduceEq, Int.reduceNe, Int.reduceLT, Int.reduceLE, Nat.reduceAdd, Nat.reduceLeDiff, ↓reduceIte, Nat.reduceLT, Nat.reduceMul, Nat.reduceSub, reduceCtorEq, frzLoc, rowCells, vAppM, beq_iff_eq, bne_iff_ne, bne_self_eq_false, beq_self_eq_true, beq_true, beq_false, I, B, w, vf99_res, vf99_keep, h, ibeq]))))
end Go.Proofs.Ytahiikdkgbbmfaa

namespace Go.Proofs.Ytahiikdkgbbmfaa
open Go.VM
/-- is it a list that begins with a number? -/
def Tm.partB : Tm → Bool
  | .mk o _ (a :: _) => decide (o = 3) && decide (a.op = 1)
  | .mk _ _ [] => false
/-- a list of parts, or nothing -/
def Tm.parts (t : Tm) : Option (List Tm) := if t.op = 3 ∧ t.args.all Tm.partB = true then some t.args else none
def partsV : Option (List Tm) → V
  | some ps => .tup [.d (.sl (ps.map Tm.row)), .d (B true)]
  | none => .tup [.d (.sl []), .d (B false)]
theorem parts_bad {t : Tm} {i : Nat} {p : Tm} (h : t.args[i]? = some p) (hp : p.partB = false) : t.parts = none := by
  unfold Tm.parts
  rw [if_neg]
  rintro ⟨_, h2⟩
  rw [List.all_eq_true] at h2
  rw [h2 p (List.mem_of_getElem? h)] at hp
  cases hp
theorem parts_good {t : Tm} (ho : t.op = 3) (h : ∀ (i : Nat) (p : Tm), t.args[i]? = some p → p.partB = true) : t.parts = some t.args := by
  unfold Tm.parts
  refine if_pos ⟨ho, ?_⟩
  rw [List.all_eq_true]
  intro p hp
  obtain ⟨i, hi⟩ := List.getElem?_of_mem hp
  exact h i p hi
set_option maxHeartbeats 4000000 in
theorem e95 (t : Tm) (hl : t.args.length < 1000000) : CV VP 95 [t.ag] [] = some ⟨partsV t.parts, [], [], 0⟩ := by
  by_cases ho : t.op = 3
  case neg =>
    have : t.parts = none := by unfold Tm.parts; rw [if_neg (fun h => ho h.1)]
    rw [this]
    simp only [partsV, Tm.ag]
    refine CV_run (vf := vf95) rfl rfl ?_
    rw [vf95_start]
    (repeat' (first
    | refine RX_seq ?_
    | refine RX_block ?_
    | ((first | refine RX_reg ?_ | refine RX_cond' ?_ | refine RX_draw0 ?_ | refine RX_draw rfl ?_ | refine RX_skip ?_ | refine RX_exit ?_ | refine RX_ret ?_); try (simp only [go_sem, Int.reduceToNat, Nat.reducePow, Int.reduceEq, Int.reduceNe, Int.reduceLT, Int.reduceLE, Nat.reduceAdd, Nat.reduceLeDiff, ↓reduceIte, Nat.reduceLT, Nat.reduceMul, Nat.reduceSub, reduceCtorEq, frzLoc, rowCells, vAppM, bne_self_eq_false, beq_self_eq_true, beq_true, beq_false, I, B, w, ibeq, ibne, bbeq, decide_eq_false_iff_not, decide_not, Bool.not_not, Decidable.not_not, Bool.not_eq_eq_eq_not, gt_iff_lt, ge_iff_le, and_false, false_and, or_self, and_self, vf95_res, vf95_keep, *]))
    | (refine ite_ngo (fun _ => ?_) (fun _ => ?_) <;> try (simp only [go_sem, Int.reduceToNat, Nat.reducePow, Int.reduceEq, Int.reduceNe, Int.reduceLT, Int.reduceLE, Nat.reduceAdd, Nat.reduceLeDiff, ↓reduceIte, Nat.reduceLT, Nat.reduceMul, Nat.reduceSub, reduceCtorEq, frzLoc, rowCells, vAppM, bne_self_eq_false, beq_self_eq_true, beq_true, beq_false, I, B, w, ibeq, ibne, bbeq, decide_eq_false_iff_not, decide_not, Bool.not_not, Decidable.not_not, Bool.not_eq_eq_eq_not, gt_iff_lt, ge_iff_le, and_false, false_and, or_self, and_self, vf95_res, vf95_keep, *]))
    | (refine ite_go (fun _ => ?_) (fun _ => ?_) <;> try (simp only [go_sem, Int.reduceToNat, Nat.reducePow, Int.reduceEq, Int.reduceNe, Int.reduceLT, Int.reduceLE, Nat.reduceAdd, Nat.reduceLeDiff, ↓reduceIte, Nat.reduceLT, Nat.reduceMul, Nat.reduceSub, reduceCtorEq, frzLoc, rowCells, vAppM, bne_self_eq_false, beq_self_eq_true, beq_true, beq_false, I, B, w, ibeq, ibne, bbeq, decide_eq_false_iff_not, decide_not, Bool.not_not, Decidable.not_not, Bool.not_eq_eq_eq_not, gt_iff_lt, ge_iff_le, and_false, false_and, or_self, and_self, vf95_res, vf95_keep, *]))))
  have h71 := e71 (Tm.rows3 t.args (by omega))
  refine CV_run (vf := vf95) rfl rfl ?_
  rw [vf95_start]
  simp only [Tm.ag]
  (repeat' (first
    | refine RX_seq ?_
    | refine RX_block ?_
    | ((first | refine RX_reg ?_ | refine RX_cond' ?_ | refine RX_draw0 ?_ | refine RX_draw rfl ?_ | refine RX_skip ?_ | refine RX_exit ?_ | refine RX_ret ?_); try (simp only [go_sem, Int.reduceToNat, Nat.reducePow, Int.reduceEq, Int.reduceNe, Int.reduceLT, Int.reduceLE, Nat.reduceAdd, Nat.reduceLeDiff, ↓reduceIte, Nat.reduceLT, Nat.reduceMul, Nat.reduceSub, reduceCtorEq, frzLoc, rowCells, vAppM, bne_self_eq_false, beq_self_eq_true, beq_true, beq_false, I, B, w, ibeq, ibne, bbeq, decide_eq_false_iff_not, decide_not, Bool.not_not, Decidable.not_not, Bool.not_eq_eq_eq_not, gt_iff_lt, ge_iff_le, and_false, false_and, or_self, and_self, vf95_res, vf95_keep, List.length_map, *]))
    | (refine ite_ngo (fun _ => ?_) (fun _ => ?_) <;> try (simp only [go_sem, Int.reduceToNat, Nat.reducePow, Int.reduceEq, Int.reduceNe, Int.reduceLT, Int.reduceLE, Nat.reduceAdd, Nat.reduceLeDiff, ↓reduceIte, Nat.reduceLT, Nat.reduceMul, Nat.reduceSub, reduceCtorEq, frzLoc, rowCells, vAppM, bne_self_eq_false, beq_self_eq_true, beq_true, beq_false, I, B, w, ibeq, ibne, bbeq, decide_eq_false_iff_not, decide_not, Bool.not_not, Decidable.not_not, Bool.not_eq_eq_eq_not, gt_iff_lt, ge_iff_le, and_false, false_and, or_self, and_self, vf95_res, vf95_keep, List.length_map, *]))
    | (refine ite_go (fun _ => ?_) (fun _ => ?_) <;> try (simp only [go_sem, Int.reduceToNat, Nat.reducePow, Int.reduceEq, Int.reduceNe, Int.reduceLT, Int.reduceLE, Nat.reduceAdd, Nat.reduceLeDiff, ↓reduceIte, Nat.reduceLT, Nat.reduceMul, Nat.reduceSub, reduceCtorEq, frzLoc, rowCells, vAppM, bne_self_eq_false, beq_self_eq_true, beq_true, beq_false, I, B, w, ibeq, ibne, bbeq, decide_eq_false_iff_not, decide_not, Bool.not_not, Decidable.not_not, Bool.not_eq_eq_eq_not, gt_iff_lt, ge_iff_le, and_false, false_and, or_self, and_self, vf95_res, vf95_keep, List.length_map, *]))))
  refine RX_loopN (n := 1) rfl ?_
  refine RL_ind (fun m st => ∃ i : Nat, i + m = t.args.length ∧ (∀ (j : Nat) (p : Tm), j < i → t.args[j]? = some p → p.partB = true) ∧ At vf95K0 1 st ((.any :: .ptr 0 0 :: .any :: .any :: .any :: .any :: .any :: .any :: .any :: .any :: .d (.sl (t.args.map Tm.row)) :: .d (I (t.args.length : Nat)) :: .d (I (i : Nat)) :: .any :: .any :: .any :: .any :: .any :: .any :: .any :: .any :: .any :: .any :: .any :: .any :: .any :: .any :: .any :: .any :: .any :: .any :: .any :: .any :: .any :: .any :: .any :: .any :: .any :: [])) [[.d (I 3), .d (I t.val), .d (.sl (t.args.map Tm.row))]] [] 0 0) ?_ t.args.length _
    ⟨0, Nat.zero_add _, fun j p hj => absurd hj (Nat.not_lt_zero _), rfl, rfl, rfl, rfl, rfl, rfl⟩
  rintro m st ⟨i, hi, hgood, hat⟩ ih
  refine RL_at hat rfl rfl (vf95L0_go ?_)
  clear hat
  cases m with
  | zero =>
    have h1 : ¬ i < t.args.length := by omega
    rw [parts_good ho fun j p hj => hgood j p (by have := (List.getElem?_eq_some_iff.1 hj).1; omega) hj]
    simp only [partsV]
    clear ih hgood
    (repeat (first
    | refine RX_seq ?_
    | refine RX_block ?_
    | ((first | refine RX_reg ?_ | refine RX_cond' ?_ | refine RX_draw0 ?_ | refine RX_draw rfl ?_ | refine RX_skip ?_ | refine RX_exit ?_ | refine RX_ret ?_); try (simp only [go_sem, Int.reduceToNat, Nat.reducePow, Int.reduceEq, Int.reduceNe, Int.reduceLT, Int.reduceLE, Nat.reduceAdd, Nat.reduceLeDiff, ↓reduceIte, Nat.reduceLT, Nat.reduceMul, Nat.reduceSub, reduceCtorEq, frzLoc, rowCells, vAppM, beq_iff_eq, bne_iff_ne, bne_self_eq_false, beq_self_eq_true, beq_true, beq_false, I, B, w, vf95_res, vf95_keep, h1, h71]))))
  | succ m =>
    have h1 : i < t.args.length := by omega
    obtain ⟨p, hp⟩ : ∃ p, t.args[i]? = some p := ⟨_, List.getElem?_eq_getElem h1⟩
    have hrp : (t.args.map Tm.row)[i]? = some p.row := by rw [List.getElem?_map, hp]; rfl
    have hwi := w_nat (i := i) (by omega)
    have next := fun (h : p.partB = true) st hat => ih m st (Nat.lt_succ_self m) ⟨i + 1, by omega, fun j q hj hq => by
      rcases Nat.lt_or_ge j i with hji | hji
      · exact hgood j q hji hq
      · obtain rfl : j = i := by omega
        rw [hp] at hq; cases hq; exact h, hat⟩
    have bad := fun (h : p.partB = false) => parts_bad hp h
    clear ih hgood
    obtain ⟨po, pv, pa⟩ := p
    simp only [Tm.row_mk] at hrp
    by_cases h3 : po = 3
    · cases pa with
      | nil =>
        rw [bad rfl]
        simp only [List.map_nil] at hrp
        simp only [partsV]
        (repeat (first
    | refine RX_seq ?_
    | refine RX_block ?_
    | ((first | refine RX_reg ?_ | refine RX_cond' ?_ | refine RX_draw0 ?_ | refine RX_draw rfl ?_ | refine RX_skip ?_ | refine RX_exit ?_ | refine RX_ret ?_); try (simp only [go_sem, Int.reduceToNat, Nat.reducePow, Int.reduceEq, Int.reduceNe, Int.reduceLT, Int.reduceLE, Nat.reduceAdd, Nat.reduceLeDiff, ↓reduceIte, Nat.reduceLT, Nat.reduceMul, Nat.reduceSub, reduceCtorEq, frzLoc, rowCells, vAppM, beq_iff_eq, bne_iff_ne, bne_self_eq_false, beq_self_eq_true, beq_true, beq_false, I, B, w, vf95_res, vf95_keep, List.length_map, h1, hrp, ibne, ibeq, h3]))))
      | cons a az =>
        simp only [List.map_cons, Tm.row_eq a] at hrp
        have hne : ¬ ((az.length + 1 : Nat) : Int) = 0 := by omega
        have hps : (0 : Int) < ((az.length + 1 : Nat) : Int) := by omega
        by_cases h4 : a.op = 1
        · have n2 := next (by simp [Tm.partB, h3, h4])
          (repeat (first
    | refine RX_seq ?_
    | refine RX_block ?_
    | ((first | refine RX_reg ?_ | refine RX_cond' ?_ | refine RX_draw0 ?_ | refine RX_draw rfl ?_ | refine RX_skip ?_ | refine RX_exit ?_ | refine RX_ret ?_); try (simp only [go_sem, Int.reduceToNat, Nat.reducePow, Int.reduceEq, Int.reduceNe, Int.reduceLT, Int.reduceLE, Nat.reduceAdd, Nat.reduceLeDiff, ↓reduceIte, Nat.reduceLT, Nat.reduceMul, Nat.reduceSub, reduceCtorEq, frzLoc, rowCells, vAppM, beq_iff_eq, bne_iff_ne, bne_self_eq_false, beq_self_eq_true, beq_true, beq_false, I, B, w, vf95_res, vf95_keep, List.length_map, h1, hrp, ibne, ibeq, h3, h4, hne, hps, hwi]))))
          exact n2 _ ⟨rfl, rfl, rfl, rfl, rfl, rfl⟩
        · rw [bad (by simp [Tm.partB, h4])]
          simp only [partsV]
          (repeat (first
    | refine RX_seq ?_
    | refine RX_block ?_
    | ((first | refine RX_reg ?_ | refine RX_cond' ?_ | refine RX_draw0 ?_ | refine RX_draw rfl ?_ | refine RX_skip ?_ | refine RX_exit ?_ | refine RX_ret ?_); try (simp only [go_sem, Int.reduceToNat, Nat.reducePow, Int.reduceEq, Int.reduceNe, Int.reduceLT, Int.reduceLE, Nat.reduceAdd, Nat.reduceLeDiff, ↓reduceIte, Nat.reduceLT, Nat.reduceMul, Nat.reduceSub, reduceCtorEq, frzLoc, rowCells, vAppM, beq_iff_eq, bne_iff_ne, bne_self_eq_false, beq_self_eq_true, beq_true, beq_false, I, B, w, vf95_res, vf95_keep, List.length_map, h1, hrp, ibne, ibeq, h3, h4, hne, hps]))))
    · rw [bad (by cases pa <;> simp [Tm.partB, h3])]
      simp only [partsV]
      (repeat (first
    | refine RX_seq ?_
    | refine RX_block ?_
    | ((first | refine RX_reg ?_ | refine RX_cond' ?_ | refine RX_draw0 ?_ | refine RX_draw rfl ?_ | refine RX_skip ?_ | refine RX_exit ?_ | refine RX_ret ?_); try (simp only [go_sem, Int.reduceToNat, Nat.reducePow, Int.reduceEq, Int.reduceNe, Int.reduceLT, Int.reduceLE, Nat.reduceAdd, Nat.reduceLeDiff, ↓reduceIte, Nat.reduceLT, Nat.reduceMul, Nat.reduceSub, reduceCtorEq, frzLoc, rowCells, vAppM, beq_iff_eq, bne_iff_ne, bne_self_eq_false, beq_self_eq_true, beq_true, beq_false, I, B, w, vf95_res, vf95_keep, List.length_map, h1, hrp, ibne, h3]))))
end Go.Proofs.Ytahiikdkgbbmfaa

namespace Go.Proofs.Ytahiikdkgbbmfaa
open Go.VM
set_option maxHeartbeats 4000000 in
theorem e97 (t : Tm) (hl : t.args.length < 1000000) : CV VP 97 [t.ag] [] = some ⟨partsV t.parts, [], [], 0⟩ := by
  by_cases ho : t.op = 3
  case neg =>
    have : t.parts = none := by unfold Tm.parts; rw [if_neg (fun h => ho h.1)]
    rw [this]
    simp only [partsV, Tm.ag]
    refine CV_run (vf := vf97) rfl rfl ?_
    rw [vf97_start]
    (repeat' (first
    | refine RX_seq ?_
    | refine RX_block ?_
    | ((first | refine RX_reg ?_ | refine RX_cond' ?_ | refine RX_draw0 ?_ | refine RX_draw rfl ?_ | refine RX_skip ?_ | refine RX_exit ?_ | refine RX_ret ?_); try (simp only [go_sem, Int.reduceToNat, Nat.reducePow, Int.reduceEq, Int.reduceNe, Int.reduceLT, Int.reduceLE, Nat.reduceAdd, Nat.reduceLeDiff, ↓reduceIte, Nat.reduceLT, Nat.reduceMul, Nat.reduceSub, reduceCtorEq, frzLoc, rowCells, vAppM, bne_self_eq_false, beq_self_eq_true, beq_true, beq_false, I, B, w, ibeq, ibne, bbeq, decide_eq_false_iff_not, decide_not, Bool.not_not, Decidable.not_not, Bool.not_eq_eq_eq_not, gt_iff_lt, ge_iff_le, and_false, false_and, or_self, and_self, vf97_res, vf97_keep, *]))
    | (refine ite_ngo (fun _ => ?_) (fun _ => ?_) <;> try (simp only [go_sem, Int.reduceToNat, Nat.reducePow, Int.reduceEq, Int.reduceNe, Int.reduceLT, Int.reduceLE, Nat.reduceAdd, Nat.reduceLeDiff, ↓reduceIte, Nat.reduceLT, Nat.reduceMul, Nat.reduceSub, reduceCtorEq, frzLoc, rowCells, vAppM, bne_self_eq_false, beq_self_eq_true, beq_true, beq_false, I, B, w, ibeq, ibne, bbeq, decide_eq_false_iff_not, decide_not, Bool.not_not, Decidable.not_not, Bool.not_eq_eq_eq_not, gt_iff_lt, ge_iff_le, and_false, false_and, or_self, and_self, vf97_res, vf97_keep, *]))
    | (refine ite_go (fun _ => ?_) (fun _ => ?_) <;> try (simp only [go_sem, Int.reduceToNat, Nat.reducePow, Int.reduceEq, Int.reduceNe, Int.reduceLT, Int.reduceLE, Nat.reduceAdd, Nat.reduceLeDiff, ↓reduceIte, Nat.reduceLT, Nat.reduceMul, Nat.reduceSub, reduceCtorEq, frzLoc, rowCells, vAppM, bne_self_eq_false, beq_self_eq_true, beq_true, beq_false, I, B, w, ibeq, ibne, bbeq, decide_eq_false_iff_not, decide_not, Bool.not_not, Decidable.not_not, Bool.not_eq_eq_eq_not, gt_iff_lt, ge_iff_le, and_false, false_and, or_self, and_self, vf97_res, vf97_keep, *]))))
  refine CV_run (vf := vf97) rfl rfl ?_
  rw [vf97_start]
  simp only [Tm.ag]
  (repeat' (first
    | refine RX_seq ?_
    | refine RX_block ?_
    | ((first | refine RX_reg ?_ | refine RX_cond' ?_ | refine RX_draw0 ?_ | refine RX_draw rfl ?_ | refine RX_skip ?_ | refine RX_exit ?_ | refine RX_ret ?_); try (simp only [go_sem, Int.reduceToNat, Nat.reducePow, Int.reduceEq, Int.reduceNe, Int.reduceLT, Int.reduceLE, Nat.reduceAdd, Nat.reduceLeDiff, ↓reduceIte, Nat.reduceLT, Nat.reduceMul, Nat.reduceSub, reduceCtorEq, frzLoc, rowCells, vAppM, bne_self_eq_false, beq_self_eq_true, beq_true, beq_false, I, B, w, ibeq, ibne, bbeq, decide_eq_false_iff_not, decide_not, Bool.not_not, Decidable.not_not, Bool.not_eq_eq_eq_not, gt_iff_lt, ge_iff_le, and_false, false_and, or_self, and_self, vf97_res, vf97_keep, List.length_map, *]))
    | (refine ite_ngo (fun _ => ?_) (fun _ => ?_) <;> try (simp only [go_sem, Int.reduceToNat, Nat.reducePow, Int.reduceEq, Int.reduceNe, Int.reduceLT, Int.reduceLE, Nat.reduceAdd, Nat.reduceLeDiff, ↓reduceIte, Nat.reduceLT, Nat.reduceMul, Nat.reduceSub, reduceCtorEq, frzLoc, rowCells, vAppM, bne_self_eq_false, beq_self_eq_true, beq_true, beq_false, I, B, w, ibeq, ibne, bbeq, decide_eq_false_iff_not, decide_not, Bool.not_not, Decidable.not_not, Bool.not_eq_eq_eq_not, gt_iff_lt, ge_iff_le, and_false, false_and, or_self, and_self, vf97_res, vf97_keep, List.length_map, *]))
    | (refine ite_go (fun _ => ?_) (fun _ => ?_) <;> try (simp only [go_sem, Int.reduceToNat, Nat.reducePow, Int.reduceEq, Int.reduceNe, Int.reduceLT, Int.reduceLE, Nat.reduceAdd, Nat.reduceLeDiff, ↓reduceIte, Nat.reduceLT, Nat.reduceMul, Nat.reduceSub, reduceCtorEq, frzLoc, rowCells, vAppM, bne_self_eq_false, beq_self_eq_true, beq_true, beq_false, I, B, w, ibeq, ibne, bbeq, decide_eq_false_iff_not, decide_not, Bool.not_not, Decidable.not_not, Bool.not_eq_eq_eq_not, gt_iff_lt, ge_iff_le, and_false, false_and, or_self, and_self, vf97_res, vf97_keep, List.length_map, *]))))
  refine RX_loopN (n := 1) rfl ?_
  refine RL_ind (fun m st => ∃ i : Nat, i + m = t.args.length ∧ (∀ (j : Nat) (p : Tm), j < i → t.args[j]? = some p → p.partB = true) ∧ At vf97K0 1 st ((.any :: .ptr 0 0 :: .any :: .any :: .d (I (i : Nat)) :: .any :: .any :: .any :: .any :: .any :: .any :: .any :: .any :: .any :: .any :: .any :: .any :: .any :: .any :: .any :: .any :: .any :: .any :: .any :: .any :: .any :: .any :: .any :: .any :: .any :: .any :: .any :: .any :: .any :: .any :: .any :: .any :: .any :: .any :: .any :: [])) [[.d (I 3), .d (I t.val), .d (.sl (t.args.map Tm.row))]] [] 0 0) ?_ t.args.length _
    ⟨0, Nat.zero_add _, fun j p hj => absurd hj (Nat.not_lt_zero _), rfl, rfl, rfl, rfl, rfl, rfl⟩
  rintro m st ⟨i, hi, hgood, hat⟩ ih
  refine RL_at hat rfl rfl (vf97L0_go ?_)
  clear hat
  cases m with
  | zero =>
    have h1 : ¬ i < t.args.length := by omega
    rw [parts_good ho fun j p hj => hgood j p (by have := (List.getElem?_eq_some_iff.1 hj).1; omega) hj]
    simp only [partsV]
    clear ih hgood
    (repeat (first
    | refine RX_seq ?_
    | refine RX_block ?_
    | ((first | refine RX_reg ?_ | refine RX_cond' ?_ | refine RX_draw0 ?_ | refine RX_draw rfl ?_ | refine RX_skip ?_ | refine RX_exit ?_ | refine RX_ret ?_); try (simp only [go_sem, Int.reduceToNat, Nat.reducePow, Int.reduceEq, Int.reduceNe, Int.reduceLT, Int.reduceLE, Nat.reduceAdd, Nat.reduceLeDiff, ↓reduceIte, Nat.reduceLT, Nat.reduceMul, Nat.reduceSub, reduceCtorEq, frzLoc, rowCells, vAppM, beq_iff_eq, bne_iff_ne, bne_self_eq_false, beq_self_eq_true, beq_true, beq_false, I, B, w, vf97_res, vf97_keep, List.length_map, h1]))))
  | succ m =>
    have h1 : i < t.args.length := by omega
    obtain ⟨p, hp⟩ : ∃ p, t.args[i]? = some p := ⟨_, List.getElem?_eq_getElem h1⟩
    have hrp : (t.args.map Tm.row)[i]? = some p.row := by rw [List.getElem?_map, hp]; rfl
    have hwi := w_nat (i := i) (by omega)
    have next := fun (h : p.partB = true) st hat => ih m st (Nat.lt_succ_self m) ⟨i + 1, by omega, fun j q hj hq => by
      rcases Nat.lt_or_ge j i with hji | hji
      · exact hgood j q hji hq
      · obtain rfl : j = i := by omega
        rw [hp] at hq; cases hq; exact h, hat⟩
    have bad := fun (h : p.partB = false) => parts_bad hp h
    clear ih hgood
    obtain ⟨po, pv, pa⟩ := p
    simp only [Tm.row_mk] at hrp
    by_cases h3 : po = 3
    · cases pa with
      | nil =>
        rw [bad rfl]
        simp only [List.map_nil] at hrp
        simp only [partsV]
        (repeat (first
    | refine RX_seq ?_
    | refine RX_block ?_
    | ((first | refine RX_reg ?_ | refine RX_cond' ?_ | refine RX_draw0 ?_ | refine RX_draw rfl ?_ | refine RX_skip ?_ | refine RX_exit ?_ | refine RX_ret ?_); try (simp only [go_sem, Int.reduceToNat, Nat.reducePow, Int.reduceEq, Int.reduceNe, Int.reduceLT, Int.reduceLE, Nat.reduceAdd, Nat.reduceLeDiff, ↓reduceIte, Nat.reduceLT, Nat.reduceMul, Nat.reduceSub, reduceCtorEq, frzLoc, rowCells, vAppM, beq_iff_eq, bne_iff_ne, bne_self_eq_false, beq_self_eq_true, beq_true, beq_false, I, B, w, vf97_res, vf97_keep, List.length_map, h1, hrp, ibne, ibeq, h3]))))
      | cons a az =>
        simp only [List.map_cons, Tm.row_eq a] at hrp
        have hne : ¬ ((az.length + 1 : Nat) : Int) = 0 := by omega
        have hps : (0 : Int) < ((az.length + 1 : Nat) : Int) := by omega
        by_cases h4 : a.op = 1
        · have n2 := next (by simp [Tm.partB, h3, h4])
          (repeat (first
    | refine RX_seq ?_
    | refine RX_block ?_
    | ((first | refine RX_reg ?_ | refine RX_cond' ?_ | refine RX_draw0 ?_ | refine RX_draw rfl ?_ | refine RX_skip ?_ | refine RX_exit ?_ | refine RX_ret ?_); try (simp only [go_sem, Int.reduceToNat, Nat.reducePow, Int.reduceEq, Int.reduceNe, Int.reduceLT, Int.reduceLE, Nat.reduceAdd, Nat.reduceLeDiff, ↓reduceIte, Nat.reduceLT, Nat.reduceMul, Nat.reduceSub, reduceCtorEq, frzLoc, rowCells, vAppM, beq_iff_eq, bne_iff_ne, bne_self_eq_false, beq_self_eq_true, beq_true, beq_false, I, B, w, vf97_res, vf97_keep, List.length_map, h1, hrp, ibne, ibeq, h3, h4, hne, hps, hwi]))))
          exact n2 _ ⟨rfl, rfl, rfl, rfl, rfl, rfl⟩
        · rw [bad (by simp [Tm.partB, h4])]
          simp only [partsV]
          (repeat (first
    | refine RX_seq ?_
    | refine RX_block ?_
    | ((first | refine RX_reg ?_ | refine RX_cond' ?_ | refine RX_draw0 ?_ | refine RX_draw rfl ?_ | refine RX_skip ?_ | refine RX_exit ?_ | refine RX_ret ?_); try (simp only [go_sem, Int.reduceToNat, Nat.reducePow, Int.reduceEq, Int.reduceNe, Int.reduceLT, Int.reduceLE, Nat.reduceAdd, Nat.reduceLeDiff, ↓reduceIte, Nat.reduceLT, Nat.reduceMul, Nat.reduceSub, reduceCtorEq, frzLoc, rowCells, vAppM, beq_iff_eq, bne_iff_ne, bne_self_eq_false, beq_self_eq_true, beq_true, beq_false, I, B, w, vf97_res, vf97_keep, List.length_map, h1, hrp, ibne, ibeq, h3, h4, hne, hps]))))
    · rw [bad (by cases pa <;> simp [Tm.partB, h3])]
      simp only [partsV]
      (repeat (first
    | refine RX_seq ?_
    | refine RX_block ?_
    | ((first | refine RX_reg ?_ | refine RX_cond' ?_ | refine RX_draw0 ?_ | refine RX_draw rfl ?_ | refine RX_skip ?_ | refine RX_exit ?_ | refine RX_ret ?_); try (simp only [go_sem, Int.reduceToNat, Nat.reducePow, Int.reduceEq, Int.reduceNe, Int.reduceLT, Int.reduceLE, Nat.reduceAdd, Nat.reduceLeDiff, ↓reduceIte, Nat.reduceLT, Nat.reduceMul, Nat.reduceSub, reduceCtorEq, frzLoc, rowCells, vAppM, beq_iff_eq, bne_iff_ne, bne_self_eq_false, beq_self_eq_true, beq_true, beq_false, I, B, w, vf97_res, vf97_keep, List.length_map, h1, hrp, ibne, h3]))))
/-- a message -/
structure Ik where
  kind : Int
  spiI : Int
  spiR : Int
  reply : Bool
  init : Bool
  id : Int
  parts : List Tm
abbrev Ik.cells (m : Ik) : List D := [I m.kind, I m.spiI, I m.spiR, B m.reply, B m.init, I m.id, .sl (m.parts.map Tm.row)]
abbrev Ik.ag (m : Ik) : V := .agg (m.cells.map .d)
def Ik.flag (m : Ik) : Int := (if m.reply then 1 else 0) + (if m.init then 2 else 0)
def Ik.head (m : Ik) : List Tm := [nT m.kind, nT m.spiI, nT m.spiR, nT m.flag, nT m.id]
def Ik.plain (m : Ik) : Tm := .mk 3 0 (m.head ++ [.mk 3 0 m.parts])
def Ik.sealed (m : Ik) (key : Tm) : Tm := .mk 3 0 (m.head ++ [.mk 7 0 [key, m.plain]])
/-- the head of a message, and what follows it -/
def rdHead : List Tm → Option (Ik × Tm)
  | [a0, a1, a2, a3, a4, a5] => if a0.op = 1 ∧ a1.op = 1 ∧ a2.op = 1 ∧ a3.op = 1 ∧ a4.op = 1 ∧ ¬ a3.val < 0 ∧ ¬ 3 < a3.val then some (⟨a0.val, a1.val, a2.val, decide (a3.val % 2 = 1), decide (2 ≤ a3.val), a4.val, []⟩, a5) else none
  | _ => none
def Ik.zero : Ik := ⟨0, 0, 0, false, false, 0, []⟩
theorem rdHead_len {l : List Tm} (h : l.length ≠ 6) : rdHead l = none := by
  unfold rdHead
  split
  · exact absurd rfl h
  · rfl
theorem list6 {α : Type} : ∀ (l : List α), l.length = 6 → ∃ x0 x1 x2 x3 x4 x5, l = [x0, x1, x2, x3, x4, x5]
  | [x0, x1, x2, x3, x4, x5], _ => ⟨x0, x1, x2, x3, x4, x5, rfl⟩
def rdV : Option (Ik × Tm) → V
  | some (m, _) => .tup [m.ag, .d (B true)]
  | none => .tup [Ik.zero.ag, .d (B false)]
theorem tmod2 (f : Int) (h : ¬ f < 0) : f.tmod 2 = f % 2 := Int.tmod_eq_emod_of_nonneg (by omega)
set_option maxHeartbeats 4000000 in
theorem e96 (t : Tm) : CV VP 96 [t.ag] [] = some ⟨rdV (if t.op = 3 then rdHead t.args else none), [], [], 0⟩ := by
  obtain ⟨a, b, l⟩ := t
  simp only [Tm.ag, Tm.op_mk, Tm.val_mk, Tm.args_mk]
  by_cases ha : a = 3
  case neg =>
    simp only [ha, if_false, rdV, Ik.zero, Ik.ag, Ik.cells]
    refine CV_run (vf := vf96) rfl rfl ?_
    rw [vf96_start]
    (repeat' (first
    | refine RX_seq ?_
    | refine RX_block ?_
    | ((first | refine RX_reg ?_ | refine RX_cond' ?_ | refine RX_draw0 ?_ | refine RX_draw rfl ?_ | refine RX_skip ?_ | refine RX_exit ?_ | refine RX_ret ?_); try (simp only [go_sem, Int.reduceToNat, Nat.reducePow, Int.reduceEq, Int.reduceNe, Int.reduceLT, Int.reduceLE, Nat.reduceAdd, Nat.reduceLeDiff, ↓reduceIte, Nat.reduceLT, Nat.reduceMul, Nat.reduceSub, reduceCtorEq, frzLoc, rowCells, vAppM, bne_self_eq_false, beq_self_eq_true, beq_true, beq_false, I, B, w, ibeq, ibne, bbeq, decide_eq_false_iff_not, decide_not, Bool.not_not, Decidable.not_not, Bool.not_eq_eq_eq_not, gt_iff_lt, ge_iff_le, and_false, false_and, or_self, and_self, vf96_res, vf96_keep, *]))
    | (refine ite_ngo (fun _ => ?_) (fun _ => ?_) <;> try (simp only [go_sem, Int.reduceToNat, Nat.reducePow, Int.reduceEq, Int.reduceNe, Int.reduceLT, Int.reduceLE, Nat.reduceAdd, Nat.reduceLeDiff, ↓reduceIte, Nat.reduceLT, Nat.reduceMul, Nat.reduceSub, reduceCtorEq, frzLoc, rowCells, vAppM, bne_self_eq_false, beq_self_eq_true, beq_true, beq_false, I, B, w, ibeq, ibne, bbeq, decide_eq_false_iff_not, decide_not, Bool.not_not, Decidable.not_not, Bool.not_eq_eq_eq_not, gt_iff_lt, ge_iff_le, and_false, false_and, or_self, and_self, vf96_res, vf96_keep, *]))
    | (refine ite_go (fun _ => ?_) (fun _ => ?_) <;> try (simp only [go_sem, Int.reduceToNat, Nat.reducePow, Int.reduceEq, Int.reduceNe, Int.reduceLT, Int.reduceLE, Nat.reduceAdd, Nat.reduceLeDiff, ↓reduceIte, Nat.reduceLT, Nat.reduceMul, Nat.reduceSub, reduceCtorEq, frzLoc, rowCells, vAppM, bne_self_eq_false, beq_self_eq_true, beq_true, beq_false, I, B, w, ibeq, ibne, bbeq, decide_eq_false_iff_not, decide_not, Bool.not_not, Decidable.not_not, Bool.not_eq_eq_eq_not, gt_iff_lt, ge_iff_le, and_false, false_and, or_self, and_self, vf96_res, vf96_keep, *]))))
  simp only [ha, if_true]
  by_cases hl : l.length = 6
  case neg =>
    rw [rdHead_len hl]
    simp only [rdV, Ik.zero, Ik.ag, Ik.cells]
    have hl2 : ¬ (l.length : Int) = 6 := by omega
    refine CV_run (vf := vf96) rfl rfl ?_
    rw [vf96_start]
    (repeat' (first
    | refine RX_seq ?_
    | refine RX_block ?_
    | ((first | refine RX_reg ?_ | refine RX_cond' ?_ | refine RX_draw0 ?_ | refine RX_draw rfl ?_ | refine RX_skip ?_ | refine RX_exit ?_ | refine RX_ret ?_); try (simp only [go_sem, Int.reduceToNat, Nat.reducePow, Int.reduceEq, Int.reduceNe, Int.reduceLT, Int.reduceLE, Nat.reduceAdd, Nat.reduceLeDiff, ↓reduceIte, Nat.reduceLT, Nat.reduceMul, Nat.reduceSub, reduceCtorEq, frzLoc, rowCells, vAppM, bne_self_eq_false, beq_self_eq_true, beq_true, beq_false, I, B, w, ibeq, ibne, bbeq, decide_eq_false_iff_not, decide_not, Bool.not_not, Decidable.not_not, Bool.not_eq_eq_eq_not, gt_iff_lt, ge_iff_le, and_false, false_and, or_self, and_self, vf96_res, vf96_keep, List.length_map, *]))
    | (refine ite_ngo (fun _ => ?_) (fun _ => ?_) <;> try (simp only [go_sem, Int.reduceToNat, Nat.reducePow, Int.reduceEq, Int.reduceNe, Int.reduceLT, Int.reduceLE, Nat.reduceAdd, Nat.reduceLeDiff, ↓reduceIte, Nat.reduceLT, Nat.reduceMul, Nat.reduceSub, reduceCtorEq, frzLoc, rowCells, vAppM, bne_self_eq_false, beq_self_eq_true, beq_true, beq_false, I, B, w, ibeq, ibne, bbeq, decide_eq_false_iff_not, decide_not, Bool.not_not, Decidable.not_not, Bool.not_eq_eq_eq_not, gt_iff_lt, ge_iff_le, and_false, false_and, or_self, and_self, vf96_res, vf96_keep, List.length_map, *]))
    | (refine ite_go (fun _ => ?_) (fun _ => ?_) <;> try (simp only [go_sem, Int.reduceToNat, Nat.reducePow, Int.reduceEq, Int.reduceNe, Int.reduceLT, Int.reduceLE, Nat.reduceAdd, Nat.reduceLeDiff, ↓reduceIte, Nat.reduceLT, Nat.reduceMul, Nat.reduceSub, reduceCtorEq, frzLoc, rowCells, vAppM, bne_self_eq_false, beq_self_eq_true, beq_true, beq_false, I, B, w, ibeq, ibne, bbeq, decide_eq_false_iff_not, decide_not, Bool.not_not, Decidable.not_not, Bool.not_eq_eq_eq_not, gt_iff_lt, ge_iff_le, and_false, false_and, or_self, and_self, vf96_res, vf96_keep, List.length_map, *]))))
  obtain ⟨x0, x1, x2, x3, x4, x5, rfl⟩ := list6 l hl
  clear hl
  have w0 : IntKind.i64.wrap (0 + 1) = 1 := rfl
  have w1 : IntKind.i64.wrap (1 + 1) = 2 := rfl
  have w2 : IntKind.i64.wrap (2 + 1) = 3 := rfl
  have w3 : IntKind.i64.wrap (3 + 1) = 4 := rfl
  have w4 : IntKind.i64.wrap (4 + 1) = 5 := rfl
  have h20 : ¬ (2 : Int) = 0 := by decide
  have hm := tmod2 x3.val
  simp only [List.map_cons, List.map_nil, Tm.row_eq, rdHead]
  refine CV_run (vf := vf96) rfl rfl ?_
  rw [vf96_start]
  (repeat' (first
    | refine RX_seq ?_
    | refine RX_block ?_
    | ((first | refine RX_reg ?_ | refine RX_cond' ?_ | refine RX_draw0 ?_ | refine RX_draw rfl ?_ | refine RX_skip ?_ | refine RX_exit ?_ | refine RX_ret ?_); try (simp only [go_sem, Int.reduceToNat, Nat.reducePow, Int.reduceEq, Int.reduceNe, Int.reduceLT, Int.reduceLE, Nat.reduceAdd, Nat.reduceLeDiff, ↓reduceIte, Nat.reduceLT, Nat.reduceMul, Nat.reduceSub, reduceCtorEq, frzLoc, rowCells, vAppM, bne_self_eq_false, beq_self_eq_true, beq_true, beq_false, I, B, w, ibeq, ibne, bbeq, decide_eq_false_iff_not, decide_not, Bool.not_not, Decidable.not_not, Bool.not_eq_eq_eq_not, gt_iff_lt, ge_iff_le, and_false, false_and, or_self, and_self, vf96_res, vf96_keep, rdV, Ik.zero, Ik.ag, Ik.cells, List.map_cons, List.map_nil, *]))
    | (refine ite_ngo (fun _ => ?_) (fun _ => ?_) <;> try (simp only [go_sem, Int.reduceToNat, Nat.reducePow, Int.reduceEq, Int.reduceNe, Int.reduceLT, Int.reduceLE, Nat.reduceAdd, Nat.reduceLeDiff, ↓reduceIte, Nat.reduceLT, Nat.reduceMul, Nat.reduceSub, reduceCtorEq, frzLoc, rowCells, vAppM, bne_self_eq_false, beq_self_eq_true, beq_true, beq_false, I, B, w, ibeq, ibne, bbeq, decide_eq_false_iff_not, decide_not, Bool.not_not, Decidable.not_not, Bool.not_eq_eq_eq_not, gt_iff_lt, ge_iff_le, and_false, false_and, or_self, and_self, vf96_res, vf96_keep, rdV, Ik.zero, Ik.ag, Ik.cells, List.map_cons, List.map_nil, *]))
    | (refine ite_go (fun _ => ?_) (fun _ => ?_) <;> try (simp only [go_sem, Int.reduceToNat, Nat.reducePow, Int.reduceEq, Int.reduceNe, Int.reduceLT, Int.reduceLE, Nat.reduceAdd, Nat.reduceLeDiff, ↓reduceIte, Nat.reduceLT, Nat.reduceMul, Nat.reduceSub, reduceCtorEq, frzLoc, rowCells, vAppM, bne_self_eq_false, beq_self_eq_true, beq_true, beq_false, I, B, w, ibeq, ibne, bbeq, decide_eq_false_iff_not, decide_not, Bool.not_not, Decidable.not_not, Bool.not_eq_eq_eq_not, gt_iff_lt, ge_iff_le, and_false, false_and, or_self, and_self, vf96_res, vf96_keep, rdV, Ik.zero, Ik.ag, Ik.cells, List.map_cons, List.map_nil, *]))
    | (refine RL_head ?_; simp only [go_sem, Int.reduceToNat, Nat.reducePow, Int.reduceEq, Int.reduceNe, Int.reduceLT, Int.reduceLE, Nat.reduceAdd, Nat.reduceLeDiff, ↓reduceIte, Nat.reduceLT, Nat.reduceMul, Nat.reduceSub, reduceCtorEq, frzLoc, rowCells, vAppM, bne_self_eq_false, beq_self_eq_true, beq_true, beq_false, I, B, w, ibeq, ibne, bbeq, decide_eq_false_iff_not, decide_not, Bool.not_not, Decidable.not_not, Bool.not_eq_eq_eq_not, gt_iff_lt, ge_iff_le, and_false, false_and, or_self, and_self, vf96_res, vf96_keep, rdV, Ik.zero, Ik.ag, Ik.cells, List.map_cons, List.map_nil, *, St.head, forget, vf96K0, RLK_some]; refine vf96L0_go ?_)
    | refine RX_loop ?_))
end Go.Proofs.Ytahiikdkgbbmfaa

namespace Go.Proofs.Ytahiikdkgbbmfaa
open Go.VM
theorem e94 (m : Ik) : CV VP 94 [m.ag] [] = some ⟨.sl 3 (m.head.map Tm.row) .full, [m.cells.map .d], [], 0⟩ := by
  obtain ⟨a, b, c, r, i, d, ps⟩ := m
  simp only [Ik.ag, Ik.cells, Ik.head, Ik.flag, List.map_cons, List.map_nil, nT_row]
  refine CV_run (vf := vf94) rfl rfl ?_
  rw [vf94_start]
  have w1 : IntKind.i64.wrap (0 + 1) = 1 := rfl
  have w2 : IntKind.i64.wrap (0 + 2) = 2 := rfl
  have w3 : IntKind.i64.wrap (1 + 2) = 3 := rfl
  cases r <;> cases i <;>
  · (repeat (first
    | refine RX_seq ?_
    | refine RX_block ?_
    | ((first | refine RX_reg ?_ | refine RX_cond' ?_ | refine RX_draw0 ?_ | refine RX_draw rfl ?_ | refine RX_skip ?_ | refine RX_exit ?_ | refine RX_ret ?_); try (simp only [go_sem, Int.reduceToNat, Nat.reducePow, Int.reduceEq, Int.reduceNe, Int.reduceLT, Int.reduceLE, Nat.reduceAdd, Nat.reduceLeDiff, ↓reduceIte, Nat.reduceLT, Nat.reduceMul, Nat.reduceSub, reduceCtorEq, frzLoc, rowCells, vAppM, beq_iff_eq, bne_iff_ne, bne_self_eq_false, beq_self_eq_true, beq_true, beq_false, I, B, w, vf94_res, vf94_keep, e75, w1, w2, w3]))))
    try rfl
theorem e56 (m : Ik) (hl : m.parts.length ≤ 4294967296) : CV VP 56 [m.ag] [] = some ⟨m.plain.ag, [], [], 0⟩ := by
  have h94 := e94 m
  have h33 := e33 (Tm.rows3 m.parts hl)
  have h33b := e33 (Tm.rows3 (m.head ++ [.mk 3 0 m.parts]) (by rw [List.length_append]; simp [Ik.head]))
  obtain ⟨a, b, c, r, i, d, ps⟩ := m
  simp only [Ik.ag, Ik.cells, Ik.plain, Ik.head, Ik.flag, List.map_cons, List.map_nil, nT_row, Tm.ag, Tm.op_mk, Tm.val_mk, Tm.args_mk, Tm.row_mk, List.cons_append, List.nil_append] at *
  refine CV_run (vf := vf56) rfl rfl ?_
  rw [vf56_start]
  (repeat (first
    | refine RX_seq ?_
    | refine RX_block ?_
    | ((first | refine RX_reg ?_ | refine RX_cond' ?_ | refine RX_draw0 ?_ | refine RX_draw rfl ?_ | refine RX_skip ?_ | refine RX_exit ?_ | refine RX_ret ?_); try (simp only [go_sem, Int.reduceToNat, Nat.reducePow, Int.reduceEq, Int.reduceNe, Int.reduceLT, Int.reduceLE, Nat.reduceAdd, Nat.reduceLeDiff, ↓reduceIte, Nat.reduceLT, Nat.reduceMul, Nat.reduceSub, reduceCtorEq, frzLoc, rowCells, vAppM, beq_iff_eq, bne_iff_ne, bne_self_eq_false, beq_self_eq_true, beq_true, beq_false, I, B, w, vf56_res, vf56_keep, h94, h33, h33b]))))
theorem e55 (m : Ik) (key : Tm) (hl : m.parts.length ≤ 4294967296) : CV VP 55 [key.ag, m.ag] [] = some ⟨(m.sealed key).ag, [], [], 0⟩ := by
  have h94 := e94 m
  have h56 := e56 m hl
  have h33b := e33 (Tm.rows3 (m.head ++ [.mk 7 0 [key, m.plain]]) (by rw [List.length_append]; simp [Ik.head]))
  simp only [Ik.sealed] at *
  generalize m.plain = p at *
  obtain ⟨a, b, c, r, i, d, ps⟩ := m
  obtain ⟨ka, kb, kc⟩ := key
  obtain ⟨pa, pb, pc⟩ := p
  simp only [Ik.ag, Ik.cells, Ik.head, Ik.flag, List.map_cons, List.map_nil, nT_row, Tm.ag, Tm.op_mk, Tm.val_mk, Tm.args_mk, Tm.row_mk, List.cons_append, List.nil_append] at *
  refine CV_run (vf := vf55) rfl rfl ?_
  rw [vf55_start]
  (repeat (first
    | refine RX_seq ?_
    | refine RX_block ?_
    | ((first | refine RX_reg ?_ | refine RX_cond' ?_ | refine RX_draw0 ?_ | refine RX_draw rfl ?_ | refine RX_skip ?_ | refine RX_exit ?_ | refine RX_ret ?_); try (simp only [go_sem, Int.reduceToNat, Nat.reducePow, Int.reduceEq, Int.reduceNe, Int.reduceLT, Int.reduceLE, Nat.reduceAdd, Nat.reduceLeDiff, ↓reduceIte, Nat.reduceLT, Nat.reduceMul, Nat.reduceSub, reduceCtorEq, frzLoc, rowCells, vAppM, beq_iff_eq, bne_iff_ne, bne_self_eq_false, beq_self_eq_true, beq_true, beq_false, I, B, w, vf55_res, vf55_keep, h94, h56, h33b, e57]))))
theorem e120 (m : Ik) : CV VP 120 [m.ag] [] = some ⟨.agg [.d (I m.kind), .d (I m.spiI), .d (I m.spiR), .d (I m.flag), .d (I m.id)], [], [], 0⟩ := by
  obtain ⟨a, b, c, r, i, d, ps⟩ := m
  simp only [Ik.ag, Ik.cells, Ik.flag, List.map_cons, List.map_nil]
  refine CV_run (vf := vf120) rfl rfl ?_
  rw [vf120_start]
  have w2 : IntKind.i64.wrap (0 + 2) = 2 := rfl
  have w3 : IntKind.i64.wrap (1 + 2) = 3 := rfl
  cases r <;> cases i <;>
  · (repeat (first
    | refine RX_seq ?_
    | refine RX_block ?_
    | ((first | refine RX_reg ?_ | refine RX_cond' ?_ | refine RX_draw0 ?_ | refine RX_draw rfl ?_ | refine RX_skip ?_ | refine RX_exit ?_ | refine RX_ret ?_); try (simp only [go_sem, Int.reduceToNat, Nat.reducePow, Int.reduceEq, Int.reduceNe, Int.reduceLT, Int.reduceLE, Nat.reduceAdd, Nat.reduceLeDiff, ↓reduceIte, Nat.reduceLT, Nat.reduceMul, Nat.reduceSub, reduceCtorEq, frzLoc, rowCells, vAppM, beq_iff_eq, bne_iff_ne, bne_self_eq_false, beq_self_eq_true, beq_true, beq_false, I, B, w, vf120_res, vf120_keep, w2, w3]))))
    try rfl
theorem e101 (m : Ik) (t : Tm) : CV VP 101 [m.ag, t.ag] [] = some ⟨(Tm.mk 3 0 (m.head ++ [t])).ag, [], [], 0⟩ := by
  have h120 := e120 m
  have h71 := e71 (Tm.rows3 (m.head ++ [t]) (by rw [List.length_append]; simp [Ik.head]))
  have w0 : IntKind.i64.wrap (0 + 1) = 1 := rfl
  have w1 : IntKind.i64.wrap (1 + 1) = 2 := rfl
  have w2 : IntKind.i64.wrap (2 + 1) = 3 := rfl
  have w3 : IntKind.i64.wrap (3 + 1) = 4 := rfl
  have w4 : IntKind.i64.wrap (4 + 1) = 5 := rfl
  simp only [Ik.head, Ik.ag, Ik.cells, List.map_cons, List.map_nil, nT_row, Tm.ag, Tm.op_mk, Tm.val_mk, Tm.args_mk, List.cons_append, List.nil_append, Tm.row_eq t] at *
  generalize m.flag = f at *
  refine CV_run (vf := vf101) rfl rfl ?_
  rw [vf101_start]
  (repeat' (first
    | refine RX_seq ?_
    | refine RX_block ?_
    | ((first | refine RX_reg ?_ | refine RX_cond' ?_ | refine RX_draw0 ?_ | refine RX_draw rfl ?_ | refine RX_skip ?_ | refine RX_exit ?_ | refine RX_ret ?_); try (simp only [go_sem, Int.reduceToNat, Nat.reducePow, Int.reduceEq, Int.reduceNe, Int.reduceLT, Int.reduceLE, Nat.reduceAdd, Nat.reduceLeDiff, ↓reduceIte, Nat.reduceLT, Nat.reduceMul, Nat.reduceSub, reduceCtorEq, frzLoc, rowCells, vAppM, bne_self_eq_false, beq_self_eq_true, beq_true, beq_false, I, B, w, ibeq, ibne, bbeq, decide_eq_false_iff_not, decide_not, Bool.not_not, Decidable.not_not, Bool.not_eq_eq_eq_not, gt_iff_lt, ge_iff_le, and_false, false_and, or_self, and_self, vf101_res, vf101_keep, e72, *]))
    | (refine ite_ngo (fun _ => ?_) (fun _ => ?_) <;> try (simp only [go_sem, Int.reduceToNat, Nat.reducePow, Int.reduceEq, Int.reduceNe, Int.reduceLT, Int.reduceLE, Nat.reduceAdd, Nat.reduceLeDiff, ↓reduceIte, Nat.reduceLT, Nat.reduceMul, Nat.reduceSub, reduceCtorEq, frzLoc, rowCells, vAppM, bne_self_eq_false, beq_self_eq_true, beq_true, beq_false, I, B, w, ibeq, ibne, bbeq, decide_eq_false_iff_not, decide_not, Bool.not_not, Decidable.not_not, Bool.not_eq_eq_eq_not, gt_iff_lt, ge_iff_le, and_false, false_and, or_self, and_self, vf101_res, vf101_keep, e72, *]))
    | (refine ite_go (fun _ => ?_) (fun _ => ?_) <;> try (simp only [go_sem, Int.reduceToNat, Nat.reducePow, Int.reduceEq, Int.reduceNe, Int.reduceLT, Int.reduceLE, Nat.reduceAdd, Nat.reduceLeDiff, ↓reduceIte, Nat.reduceLT, Nat.reduceMul, Nat.reduceSub, reduceCtorEq, frzLoc, rowCells, vAppM, bne_self_eq_false, beq_self_eq_true, beq_true, beq_false, I, B, w, ibeq, ibne, bbeq, decide_eq_false_iff_not, decide_not, Bool.not_not, Decidable.not_not, Bool.not_eq_eq_eq_not, gt_iff_lt, ge_iff_le, and_false, false_and, or_self, and_self, vf101_res, vf101_keep, e72, *]))
    | (refine RL_head ?_; simp only [go_sem, Int.reduceToNat, Nat.reducePow, Int.reduceEq, Int.reduceNe, Int.reduceLT, Int.reduceLE, Nat.reduceAdd, Nat.reduceLeDiff, ↓reduceIte, Nat.reduceLT, Nat.reduceMul, Nat.reduceSub, reduceCtorEq, frzLoc, rowCells, vAppM, bne_self_eq_false, beq_self_eq_true, beq_true, beq_false, I, B, w, ibeq, ibne, bbeq, decide_eq_false_iff_not, decide_not, Bool.not_not, Decidable.not_not, Bool.not_eq_eq_eq_not, gt_iff_lt, ge_iff_le, and_false, false_and, or_self, and_self, vf101_res, vf101_keep, e72, *, St.head, forget, vf101K0, RLK_some]; refine vf101L0_go ?_)
    | refine RX_loop ?_))
theorem e66 (m : Ik) (hl : m.parts.length ≤ 4294967296) : CV VP 66 [m.ag] [] = some ⟨m.plain.ag, [], [], 0⟩ := by
  have h71 := e71 (Tm.rows3 m.parts hl)
  have h101 := e101 m (.mk 3 0 m.parts)
  simp only [Ik.plain, Ik.ag, Ik.cells, List.map_cons, List.map_nil, Tm.ag, Tm.op_mk, Tm.val_mk, Tm.args_mk] at *
  generalize m.head ++ [.mk 3 0 m.parts] = A at *
  refine CV_run (vf := vf66) rfl rfl ?_
  rw [vf66_start]
  (repeat (first
    | refine RX_seq ?_
    | refine RX_block ?_
    | ((first | refine RX_reg ?_ | refine RX_cond' ?_ | refine RX_draw0 ?_ | refine RX_draw rfl ?_ | refine RX_skip ?_ | refine RX_exit ?_ | refine RX_ret ?_); try (simp only [go_sem, Int.reduceToNat, Nat.reducePow, Int.reduceEq, Int.reduceNe, Int.reduceLT, Int.reduceLE, Nat.reduceAdd, Nat.reduceLeDiff, ↓reduceIte, Nat.reduceLT, Nat.reduceMul, Nat.reduceSub, reduceCtorEq, frzLoc, rowCells, vAppM, beq_iff_eq, bne_iff_ne, bne_self_eq_false, beq_self_eq_true, beq_true, beq_false, I, B, w, vf66_res, vf66_keep, h71, h101]))))
theorem e102 (a b c x y z : D) : CV VP 102 [.agg [.d a, .d b, .d c], .agg [.d x, .d y, .d z]] [] = some ⟨.agg [.d (I 7), .d (I 0), .d (.sl [[a, b, c], [x, y, z]])], [], [], 0⟩ := by
  refine CV_run (vf := vf102) rfl rfl ?_
  rw [vf102_start]
  (repeat (first
    | refine RX_seq ?_
    | refine RX_block ?_
    | ((first | refine RX_reg ?_ | refine RX_cond' ?_ | refine RX_draw0 ?_ | refine RX_draw rfl ?_ | refine RX_skip ?_ | refine RX_exit ?_ | refine RX_ret ?_); try (simp only [go_sem, Int.reduceToNat, Nat.reducePow, Int.reduceEq, Int.reduceNe, Int.reduceLT, Int.reduceLE, Nat.reduceAdd, Nat.reduceLeDiff, ↓reduceIte, Nat.reduceLT, Nat.reduceMul, Nat.reduceSub, reduceCtorEq, frzLoc, rowCells, vAppM, beq_iff_eq, bne_iff_ne, bne_self_eq_false, beq_self_eq_true, beq_true, beq_false, I, B, w, vf102_res, vf102_keep]))))
theorem e67 (m : Ik) (key : Tm) (hl : m.parts.length ≤ 4294967296) : CV VP 67 [key.ag, m.ag] [] = some ⟨(m.sealed key).ag, [], [], 0⟩ := by
  have h66 := e66 m hl
  have h101 := e101 m (.mk 7 0 [key, m.plain])
  simp only [Ik.sealed] at *
  generalize m.plain = p at *
  obtain ⟨ka, kb, kc⟩ := key
  obtain ⟨pa, pb, pc⟩ := p
  simp only [Ik.ag, Ik.cells, List.map_cons, List.map_nil, Tm.ag, Tm.op_mk, Tm.val_mk, Tm.args_mk, Tm.row_mk] at *
  generalize m.head ++ [.mk 7 0 [.mk ka kb kc, .mk pa pb pc]] = A at *
  refine CV_run (vf := vf67) rfl rfl ?_
  rw [vf67_start]
  (repeat (first
    | refine RX_seq ?_
    | refine RX_block ?_
    | ((first | refine RX_reg ?_ | refine RX_cond' ?_ | refine RX_draw0 ?_ | refine RX_draw rfl ?_ | refine RX_skip ?_ | refine RX_exit ?_ | refine RX_ret ?_); try (simp only [go_sem, Int.reduceToNat, Nat.reducePow, Int.reduceEq, Int.reduceNe, Int.reduceLT, Int.reduceLE, Nat.reduceAdd, Nat.reduceLeDiff, ↓reduceIte, Nat.reduceLT, Nat.reduceMul, Nat.reduceSub, reduceCtorEq, frzLoc, rowCells, vAppM, beq_iff_eq, bne_iff_ne, bne_self_eq_false, beq_self_eq_true, beq_true, beq_false, I, B, w, vf67_res, vf67_keep, h66, h101, e102]))))
end Go.Proofs.Ytahiikdkgbbmfaa

namespace Go.Proofs.Ytahiikdkgbbmfaa
open Go.VM
/-- what a term is as a message: the message, and whether it is sealed -/
def shapeR : Option (Ik × Tm) → Option (Ik × Bool)
  | some (m, r) => (match r.parts with
    | some ps => some ({ m with parts := ps }, false)
    | none => if r.op = 7 ∧ r.args.length = 2 then some (m, true) else none)
  | none => none
def Tm.shape (t : Tm) : Option (Ik × Bool) := shapeR (if t.op = 3 then rdHead t.args else none)
def shapeV : Option (Ik × Bool) → V
  | some (m, s) => .tup [m.ag, .d (B s), .d (B true)]
  | none => .tup [Ik.zero.ag, .d (B false), .d (B false)]
theorem rdHead_some {l : List Tm} {m : Ik} {r : Tm} (h : rdHead l = some (m, r)) : ∃ x0 x1 x2 x3 x4, l = [x0, x1, x2, x3, x4, r] ∧ m.parts = [] := by
  unfold rdHead at h
  split at h
  · split at h
    · cases h; exact ⟨_, _, _, _, _, rfl, rfl⟩
    · cases h
  · cases h
theorem parts_op {t : Tm} (h : ¬ t.op = 3) : t.parts = none := by unfold Tm.parts; rw [if_neg (fun k => h k.1)]
set_option maxHeartbeats 4000000 in
theorem e59 (t : Tm) (hl : ∀ u ∈ t.args, u.args.length < 1000000) : CV VP 59 [t.ag] [] = some ⟨shapeV t.shape, [], [], 0⟩ := by
  have h96 := e96 t
  unfold Tm.shape
  cases hr : (if t.op = 3 then rdHead t.args else none) with
  | none =>
    rw [hr] at h96
    obtain ⟨a, b, l⟩ := t
    simp only [Tm.ag, Tm.op_mk, Tm.val_mk, Tm.args_mk, rdV, shapeV, shapeR, Ik.zero, Ik.ag, Ik.cells] at *
    refine CV_run (vf := vf59) rfl rfl ?_
    rw [vf59_start]
    (repeat' (first
    | refine RX_seq ?_
    | refine RX_block ?_
    | ((first | refine RX_reg ?_ | refine RX_cond' ?_ | refine RX_draw0 ?_ | refine RX_draw rfl ?_ | refine RX_skip ?_ | refine RX_exit ?_ | refine RX_ret ?_); try (simp only [go_sem, Int.reduceToNat, Nat.reducePow, Int.reduceEq, Int.reduceNe, Int.reduceLT, Int.reduceLE, Nat.reduceAdd, Nat.reduceLeDiff, ↓reduceIte, Nat.reduceLT, Nat.reduceMul, Nat.reduceSub, reduceCtorEq, frzLoc, rowCells, vAppM, bne_self_eq_false, beq_self_eq_true, beq_true, beq_false, I, B, w, ibeq, ibne, bbeq, decide_eq_false_iff_not, decide_not, Bool.not_not, Decidable.not_not, Bool.not_eq_eq_eq_not, gt_iff_lt, ge_iff_le, and_false, false_and, or_self, and_self, vf59_res, vf59_keep, *]))
    | (refine ite_ngo (fun _ => ?_) (fun _ => ?_) <;> try (simp only [go_sem, Int.reduceToNat, Nat.reducePow, Int.reduceEq, Int.reduceNe, Int.reduceLT, Int.reduceLE, Nat.reduceAdd, Nat.reduceLeDiff, ↓reduceIte, Nat.reduceLT, Nat.reduceMul, Nat.reduceSub, reduceCtorEq, frzLoc, rowCells, vAppM, bne_self_eq_false, beq_self_eq_true, beq_true, beq_false, I, B, w, ibeq, ibne, bbeq, decide_eq_false_iff_not, decide_not, Bool.not_not, Decidable.not_not, Bool.not_eq_eq_eq_not, gt_iff_lt, ge_iff_le, and_false, false_and, or_self, and_self, vf59_res, vf59_keep, *]))
    | (refine ite_go (fun _ => ?_) (fun _ => ?_) <;> try (simp only [go_sem, Int.reduceToNat, Nat.reducePow, Int.reduceEq, Int.reduceNe, Int.reduceLT, Int.reduceLE, Nat.reduceAdd, Nat.reduceLeDiff, ↓reduceIte, Nat.reduceLT, Nat.reduceMul, Nat.reduceSub, reduceCtorEq, frzLoc, rowCells, vAppM, bne_self_eq_false, beq_self_eq_true, beq_true, beq_false, I, B, w, ibeq, ibne, bbeq, decide_eq_false_iff_not, decide_not, Bool.not_not, Decidable.not_not, Bool.not_eq_eq_eq_not, gt_iff_lt, ge_iff_le, and_false, false_and, or_self, and_self, vf59_res, vf59_keep, *]))))
  | some p =>
    obtain ⟨m, r⟩ := p
    rw [hr] at h96
    obtain ⟨a, b, l⟩ := t
    simp only [Tm.op_mk, Tm.args_mk] at hr
    by_cases ha : a = 3
    case neg => simp only [ha, if_false, reduceCtorEq] at hr
    subst ha
    simp only [if_true] at hr
    obtain ⟨x0, x1, x2, x3, x4, rfl, hm⟩ := rdHead_some hr
    clear hr
    have h97 := e97 r (hl r (by simp [Tm.args]))
    clear hl
    obtain ⟨k, si, sr, rp, ini, id, ps⟩ := m
    simp only at hm
    subst hm
    simp only [Tm.ag, Tm.op_mk, Tm.val_mk, Tm.args_mk, rdV, shapeR, Ik.ag, Ik.cells, List.map_cons, List.map_nil, Tm.row_eq] at h96 h97 ⊢
    by_cases h7 : r.op = 7
    · obtain ⟨ro, rv, ra⟩ := r
      simp only [Tm.op_mk, Tm.val_mk, Tm.args_mk] at h7 h96 h97 ⊢
      subst h7
      have hp := parts_op (t := .mk 7 rv ra) (by simp [Tm.op])
      rw [hp] at h97 ⊢
      simp only [true_and, partsV] at h97 ⊢
      by_cases h2 : (ra.length : Int) = 2
      · have h2n : ra.length = 2 := by omega
        simp only [h2n, if_true, shapeV, Ik.ag, Ik.cells, List.map_cons, List.map_nil]
        clear hp h97
        refine CV_run (vf := vf59) rfl rfl ?_
        rw [vf59_start]
        (repeat' (first
    | refine RX_seq ?_
    | refine RX_block ?_
    | ((first | refine RX_reg ?_ | refine RX_cond' ?_ | refine RX_draw0 ?_ | refine RX_draw rfl ?_ | refine RX_skip ?_ | refine RX_exit ?_ | refine RX_ret ?_); try (simp only [go_sem, Int.reduceToNat, Nat.reducePow, Int.reduceEq, Int.reduceNe, Int.reduceLT, Int.reduceLE, Nat.reduceAdd, Nat.reduceLeDiff, ↓reduceIte, Nat.reduceLT, Nat.reduceMul, Nat.reduceSub, reduceCtorEq, frzLoc, rowCells, vAppM, bne_self_eq_false, beq_self_eq_true, beq_true, beq_false, I, B, w, ibeq, ibne, bbeq, decide_eq_false_iff_not, decide_not, Bool.not_not, Decidable.not_not, Bool.not_eq_eq_eq_not, gt_iff_lt, ge_iff_le, and_false, false_and, or_self, and_self, vf59_res, vf59_keep, List.length_map, *]))
    | (refine ite_ngo (fun _ => ?_) (fun _ => ?_) <;> try (simp only [go_sem, Int.reduceToNat, Nat.reducePow, Int.reduceEq, Int.reduceNe, Int.reduceLT, Int.reduceLE, Nat.reduceAdd, Nat.reduceLeDiff, ↓reduceIte, Nat.reduceLT, Nat.reduceMul, Nat.reduceSub, reduceCtorEq, frzLoc, rowCells, vAppM, bne_self_eq_false, beq_self_eq_true, beq_true, beq_false, I, B, w, ibeq, ibne, bbeq, decide_eq_false_iff_not, decide_not, Bool.not_not, Decidable.not_not, Bool.not_eq_eq_eq_not, gt_iff_lt, ge_iff_le, and_false, false_and, or_self, and_self, vf59_res, vf59_keep, List.length_map, *]))
    | (refine ite_go (fun _ => ?_) (fun _ => ?_) <;> try (simp only [go_sem, Int.reduceToNat, Nat.reducePow, Int.reduceEq, Int.reduceNe, Int.reduceLT, Int.reduceLE, Nat.reduceAdd, Nat.reduceLeDiff, ↓reduceIte, Nat.reduceLT, Nat.reduceMul, Nat.reduceSub, reduceCtorEq, frzLoc, rowCells, vAppM, bne_self_eq_false, beq_self_eq_true, beq_true, beq_false, I, B, w, ibeq, ibne, bbeq, decide_eq_false_iff_not, decide_not, Bool.not_not, Decidable.not_not, Bool.not_eq_eq_eq_not, gt_iff_lt, ge_iff_le, and_false, false_and, or_self, and_self, vf59_res, vf59_keep, List.length_map, *]))))
      · have h2n : ¬ ra.length = 2 := by omega
        simp only [h2n, if_false, shapeV, Ik.zero, Ik.ag, Ik.cells, List.map_cons, List.map_nil]
        clear hp
        refine CV_run (vf := vf59) rfl rfl ?_
        rw [vf59_start]
        (repeat' (first
    | refine RX_seq ?_
    | refine RX_block ?_
    | ((first | refine RX_reg ?_ | refine RX_cond' ?_ | refine RX_draw0 ?_ | refine RX_draw rfl ?_ | refine RX_skip ?_ | refine RX_exit ?_ | refine RX_ret ?_); try (simp only [go_sem, Int.reduceToNat, Nat.reducePow, Int.reduceEq, Int.reduceNe, Int.reduceLT, Int.reduceLE, Nat.reduceAdd, Nat.reduceLeDiff, ↓reduceIte, Nat.reduceLT, Nat.reduceMul, Nat.reduceSub, reduceCtorEq, frzLoc, rowCells, vAppM, bne_self_eq_false, beq_self_eq_true, beq_true, beq_false, I, B, w, ibeq, ibne, bbeq, decide_eq_false_iff_not, decide_not, Bool.not_not, Decidable.not_not, Bool.not_eq_eq_eq_not, gt_iff_lt, ge_iff_le, and_false, false_and, or_self, and_self, vf59_res, vf59_keep, List.length_map, *]))
    | (refine ite_ngo (fun _ => ?_) (fun _ => ?_) <;> try (simp only [go_sem, Int.reduceToNat, Nat.reducePow, Int.reduceEq, Int.reduceNe, Int.reduceLT, Int.reduceLE, Nat.reduceAdd, Nat.reduceLeDiff, ↓reduceIte, Nat.reduceLT, Nat.reduceMul, Nat.reduceSub, reduceCtorEq, frzLoc, rowCells, vAppM, bne_self_eq_false, beq_self_eq_true, beq_true, beq_false, I, B, w, ibeq, ibne, bbeq, decide_eq_false_iff_not, decide_not, Bool.not_not, Decidable.not_not, Bool.not_eq_eq_eq_not, gt_iff_lt, ge_iff_le, and_false, false_and, or_self, and_self, vf59_res, vf59_keep, List.length_map, *]))
    | (refine ite_go (fun _ => ?_) (fun _ => ?_) <;> try (simp only [go_sem, Int.reduceToNat, Nat.reducePow, Int.reduceEq, Int.reduceNe, Int.reduceLT, Int.reduceLE, Nat.reduceAdd, Nat.reduceLeDiff, ↓reduceIte, Nat.reduceLT, Nat.reduceMul, Nat.reduceSub, reduceCtorEq, frzLoc, rowCells, vAppM, bne_self_eq_false, beq_self_eq_true, beq_true, beq_false, I, B, w, ibeq, ibne, bbeq, decide_eq_false_iff_not, decide_not, Bool.not_not, Decidable.not_not, Bool.not_eq_eq_eq_not, gt_iff_lt, ge_iff_le, and_false, false_and, or_self, and_self, vf59_res, vf59_keep, List.length_map, *]))))
    · simp only [h7, false_and, if_false]
      cases hp : r.parts with
      | none =>
        rw [hp] at h97
        simp only [partsV, shapeV, Ik.zero, Ik.ag, Ik.cells, List.map_cons, List.map_nil] at h97 ⊢
        clear hp
        refine CV_run (vf := vf59) rfl rfl ?_
        rw [vf59_start]
        (repeat' (first
    | refine RX_seq ?_
    | refine RX_block ?_
    | ((first | refine RX_reg ?_ | refine RX_cond' ?_ | refine RX_draw0 ?_ | refine RX_draw rfl ?_ | refine RX_skip ?_ | refine RX_exit ?_ | refine RX_ret ?_); try (simp only [go_sem, Int.reduceToNat, Nat.reducePow, Int.reduceEq, Int.reduceNe, Int.reduceLT, Int.reduceLE, Nat.reduceAdd, Nat.reduceLeDiff, ↓reduceIte, Nat.reduceLT, Nat.reduceMul, Nat.reduceSub, reduceCtorEq, frzLoc, rowCells, vAppM, bne_self_eq_false, beq_self_eq_true, beq_true, beq_false, I, B, w, ibeq, ibne, bbeq, decide_eq_false_iff_not, decide_not, Bool.not_not, Decidable.not_not, Bool.not_eq_eq_eq_not, gt_iff_lt, ge_iff_le, and_false, false_and, or_self, and_self, vf59_res, vf59_keep, List.length_map, *]))
    | (refine ite_ngo (fun _ => ?_) (fun _ => ?_) <;> try (simp only [go_sem, Int.reduceToNat, Nat.reducePow, Int.reduceEq, Int.reduceNe, Int.reduceLT, Int.reduceLE, Nat.reduceAdd, Nat.reduceLeDiff, ↓reduceIte, Nat.reduceLT, Nat.reduceMul, Nat.reduceSub, reduceCtorEq, frzLoc, rowCells, vAppM, bne_self_eq_false, beq_self_eq_true, beq_true, beq_false, I, B, w, ibeq, ibne, bbeq, decide_eq_false_iff_not, decide_not, Bool.not_not, Decidable.not_not, Bool.not_eq_eq_eq_not, gt_iff_lt, ge_iff_le, and_false, false_and, or_self, and_self, vf59_res, vf59_keep, List.length_map, *]))
    | (refine ite_go (fun _ => ?_) (fun _ => ?_) <;> try (simp only [go_sem, Int.reduceToNat, Nat.reducePow, Int.reduceEq, Int.reduceNe, Int.reduceLT, Int.reduceLE, Nat.reduceAdd, Nat.reduceLeDiff, ↓reduceIte, Nat.reduceLT, Nat.reduceMul, Nat.reduceSub, reduceCtorEq, frzLoc, rowCells, vAppM, bne_self_eq_false, beq_self_eq_true, beq_true, beq_false, I, B, w, ibeq, ibne, bbeq, decide_eq_false_iff_not, decide_not, Bool.not_not, Decidable.not_not, Bool.not_eq_eq_eq_not, gt_iff_lt, ge_iff_le, and_false, false_and, or_self, and_self, vf59_res, vf59_keep, List.length_map, *]))))
      | some ps =>
        rw [hp] at h97
        simp only [partsV, shapeV, Ik.zero, Ik.ag, Ik.cells, List.map_cons, List.map_nil] at h97 ⊢
        clear hp
        refine CV_run (vf := vf59) rfl rfl ?_
        rw [vf59_start]
        (repeat' (first
    | refine RX_seq ?_
    | refine RX_block ?_
    | ((first | refine RX_reg ?_ | refine RX_cond' ?_ | refine RX_draw0 ?_ | refine RX_draw rfl ?_ | refine RX_skip ?_ | refine RX_exit ?_ | refine RX_ret ?_); try (simp only [go_sem, Int.reduceToNat, Nat.reducePow, Int.reduceEq, Int.reduceNe, Int.reduceLT, Int.reduceLE, Nat.reduceAdd, Nat.reduceLeDiff, ↓reduceIte, Nat.reduceLT, Nat.reduceMul, Nat.reduceSub, reduceCtorEq, frzLoc, rowCells, vAppM, bne_self_eq_false, beq_self_eq_true, beq_true, beq_false, I, B, w, ibeq, ibne, bbeq, decide_eq_false_iff_not, decide_not, Bool.not_not, Decidable.not_not, Bool.not_eq_eq_eq_not, gt_iff_lt, ge_iff_le, and_false, false_and, or_self, and_self, vf59_res, vf59_keep, List.length_map, *]))
    | (refine ite_ngo (fun _ => ?_) (fun _ => ?_) <;> try (simp only [go_sem, Int.reduceToNat, Nat.reducePow, Int.reduceEq, Int.reduceNe, Int.reduceLT, Int.reduceLE, Nat.reduceAdd, Nat.reduceLeDiff, ↓reduceIte, Nat.reduceLT, Nat.reduceMul, Nat.reduceSub, reduceCtorEq, frzLoc, rowCells, vAppM, bne_self_eq_false, beq_self_eq_true, beq_true, beq_false, I, B, w, ibeq, ibne, bbeq, decide_eq_false_iff_not, decide_not, Bool.not_not, Decidable.not_not, Bool.not_eq_eq_eq_not, gt_iff_lt, ge_iff_le, and_false, false_and, or_self, and_self, vf59_res, vf59_keep, List.length_map, *]))
    | (refine ite_go (fun _ => ?_) (fun _ => ?_) <;> try (simp only [go_sem, Int.reduceToNat, Nat.reducePow, Int.reduceEq, Int.reduceNe, Int.reduceLT, Int.reduceLE, Nat.reduceAdd, Nat.reduceLeDiff, ↓reduceIte, Nat.reduceLT, Nat.reduceMul, Nat.reduceSub, reduceCtorEq, frzLoc, rowCells, vAppM, bne_self_eq_false, beq_self_eq_true, beq_true, beq_false, I, B, w, ibeq, ibne, bbeq, decide_eq_false_iff_not, decide_not, Bool.not_not, Decidable.not_not, Bool.not_eq_eq_eq_not, gt_iff_lt, ge_iff_le, and_false, false_and, or_self, and_self, vf59_res, vf59_keep, List.length_map, *]))))
end Go.Proofs.Ytahiikdkgbbmfaa

namespace Go.Proofs.Ytahiikdkgbbmfaa
open Go.VM
/-- the cells of a cursor -/
def curC (rows : List (List D)) (n : Nat) (b : Bool) : List V := [.d (.sl rows), .d (I (n : Nat)), .d (B b)]
theorem e106g {rows : List (List D)} {n : Nat} {o v x : D} (hn : n < 1000000) (hl : n < rows.length) (hr : rows[n]? = some [o, v, x]) (id : Nat) : ∀ bl, CtxOk bl id →
    CV VP 106 [.ptr id 0] (gx bl id [.d (.sl rows), .d (I (n : Nat)), .d (B false)] []) = some ⟨.agg [.d o, .d v, .d x], gx bl id [.d (.sl rows), .d (I ((n + 1 : Nat) : Int)), .d (B false)] [], [], 0⟩ := by
  intro bl h
  have hid := h.lt
  have h1 : ¬ (rows.length : Int) ≤ (n : Int) := by omega
  have hwi := w_nat (i := n) (by omega)
  have hwd : IntKind.i64.wrap (((n + 1 : Nat) : Int) - 1) = (n : Int) := by rw [w_in (by omega) (by omega)]; omega
  refine CV_run (vf := vf106) rfl rfl ?_
  rw [vf106_start]
  (repeat (first
    | refine RX_seq ?_
    | refine RX_block ?_
    | ((first | refine RX_reg ?_ | refine RX_cond' ?_ | refine RX_draw0 ?_ | refine RX_draw rfl ?_ | refine RX_skip ?_ | refine RX_exit ?_ | refine RX_ret ?_); try (simp only [go_sem, Int.reduceToNat, Nat.reducePow, Int.reduceEq, Int.reduceNe, Int.reduceLT, Int.reduceLE, Nat.reduceAdd, Nat.reduceLeDiff, ↓reduceIte, Nat.reduceLT, Nat.reduceMul, Nat.reduceSub, reduceCtorEq, frzLoc, rowCells, vAppM, beq_iff_eq, bne_iff_ne, bne_self_eq_false, beq_self_eq_true, beq_true, beq_false, I, B, w, vf106_res, vf106_keep, gx_len, gx_app, gx_get h, gx_own0, gx_own, gx_set h, gx_setOwn0, gx_setOwn, gx_er h, gx_take, gx_all0 h, gx_all h, ge_iff_le, hid, h1, hwi, hwd, hl, hr, Nat.add_right_cancel_iff, Nat.lt_irrefl, cx_nlt, Nat.not_lt_zero, Nat.ne_of_lt hid, Nat.le_add_right]))))
  done
theorem e106b {rows : List (List D)} {n : Int} (id : Nat) : ∀ bl, CtxOk bl id →
    CV VP 106 [.ptr id 0] (gx bl id [.d (.sl rows), .d (I n), .d (B true)] []) = some ⟨.agg [.d (I 0), .d (I 0), .d (.sl [])], gx bl id [.d (.sl rows), .d (I n), .d (B true)] [], [], 0⟩ := by
  intro bl h
  have hid := h.lt
  refine CV_run (vf := vf106) rfl rfl ?_
  rw [vf106_start]
  (repeat (first
    | refine RX_seq ?_
    | refine RX_block ?_
    | ((first | refine RX_reg ?_ | refine RX_cond' ?_ | refine RX_draw0 ?_ | refine RX_draw rfl ?_ | refine RX_skip ?_ | refine RX_exit ?_ | refine RX_ret ?_); try (simp only [go_sem, Int.reduceToNat, Nat.reducePow, Int.reduceEq, Int.reduceNe, Int.reduceLT, Int.reduceLE, Nat.reduceAdd, Nat.reduceLeDiff, ↓reduceIte, Nat.reduceLT, Nat.reduceMul, Nat.reduceSub, reduceCtorEq, frzLoc, rowCells, vAppM, beq_iff_eq, bne_iff_ne, bne_self_eq_false, beq_self_eq_true, beq_true, beq_false, I, B, w, vf106_res, vf106_keep, gx_len, gx_app, gx_get h, gx_own0, gx_own, gx_set h, gx_setOwn0, gx_setOwn, gx_er h, gx_take, gx_all0 h, gx_all h, ge_iff_le, hid, Nat.add_right_cancel_iff, Nat.lt_irrefl, cx_nlt, Nat.not_lt_zero, Nat.ne_of_lt hid, Nat.le_add_right]))))
  done
theorem e87g {rows : List (List D)} {n : Nat} {o v : Int} {x : D} (hn : n < 1000000) (hl : n < rows.length) (hr : rows[n]? = some [I o, I v, x]) (id : Nat) : ∀ bl, CtxOk bl id →
    CV VP 87 [.ptr id 0] (gx bl id [.d (.sl rows), .d (I (n : Nat)), .d (B false)] []) = some ⟨.d (I v), gx bl id [.d (.sl rows), .d (I ((n + 1 : Nat) : Int)), .d (B (decide (¬ o = 1)))] [], [], 0⟩ := by
  intro bl h
  have hid := h.lt
  have h106 := e106g hn hl hr id bl h
  clear hl hr
  refine CV_run (vf := vf87) rfl rfl ?_
  rw [vf87_start]
  by_cases ho : o = 1
  · (repeat (first
    | refine RX_seq ?_
    | refine RX_block ?_
    | ((first | refine RX_reg ?_ | refine RX_cond' ?_ | refine RX_draw0 ?_ | refine RX_draw rfl ?_ | refine RX_skip ?_ | refine RX_exit ?_ | refine RX_ret ?_); try (simp only [go_sem, Int.reduceToNat, Nat.reducePow, Int.reduceEq, Int.reduceNe, Int.reduceLT, Int.reduceLE, Nat.reduceAdd, Nat.reduceLeDiff, ↓reduceIte, Nat.reduceLT, Nat.reduceMul, Nat.reduceSub, reduceCtorEq, frzLoc, rowCells, vAppM, beq_iff_eq, bne_iff_ne, bne_self_eq_false, beq_self_eq_true, beq_true, beq_false, I, B, w, vf87_res, vf87_keep, gx_len, gx_app, gx_get h, gx_own0, gx_own, gx_set h, gx_setOwn0, gx_setOwn, gx_er h, gx_take, gx_all0 h, gx_all h, hid, Nat.add_right_cancel_iff, Nat.lt_irrefl, cx_nlt, Nat.not_lt_zero, Nat.ne_of_lt hid, Nat.le_add_right, h106, ibne, ho, decide_not]))))
    done
  · (repeat (first
    | refine RX_seq ?_
    | refine RX_block ?_
    | ((first | refine RX_reg ?_ | refine RX_cond' ?_ | refine RX_draw0 ?_ | refine RX_draw rfl ?_ | refine RX_skip ?_ | refine RX_exit ?_ | refine RX_ret ?_); try (simp only [go_sem, Int.reduceToNat, Nat.reducePow, Int.reduceEq, Int.reduceNe, Int.reduceLT, Int.reduceLE, Nat.reduceAdd, Nat.reduceLeDiff, ↓reduceIte, Nat.reduceLT, Nat.reduceMul, Nat.reduceSub, reduceCtorEq, frzLoc, rowCells, vAppM, beq_iff_eq, bne_iff_ne, bne_self_eq_false, beq_self_eq_true, beq_true, beq_false, I, B, w, vf87_res, vf87_keep, gx_len, gx_app, gx_get h, gx_own0, gx_own, gx_set h, gx_setOwn0, gx_setOwn, gx_er h, gx_take, gx_all0 h, gx_all h, hid, Nat.add_right_cancel_iff, Nat.lt_irrefl, cx_nlt, Nat.not_lt_zero, Nat.ne_of_lt hid, Nat.le_add_right, h106, ibne, ho, decide_not]))))
    done
theorem e87b {rows : List (List D)} {n : Int} (id : Nat) : ∀ bl, CtxOk bl id →
    CV VP 87 [.ptr id 0] (gx bl id [.d (.sl rows), .d (I n), .d (B true)] []) = some ⟨.d (I 0), gx bl id [.d (.sl rows), .d (I n), .d (B true)] [], [], 0⟩ := by
  intro bl h
  have hid := h.lt
  have h106 := e106b (rows := rows) (n := n) id bl h
  have h01 : ¬ (0 : Int) = 1 := by decide
  refine CV_run (vf := vf87) rfl rfl ?_
  rw [vf87_start]
  (repeat (first
    | refine RX_seq ?_
    | refine RX_block ?_
    | ((first | refine RX_reg ?_ | refine RX_cond' ?_ | refine RX_draw0 ?_ | refine RX_draw rfl ?_ | refine RX_skip ?_ | refine RX_exit ?_ | refine RX_ret ?_); try (simp only [go_sem, Int.reduceToNat, Nat.reducePow, Int.reduceEq, Int.reduceNe, Int.reduceLT, Int.reduceLE, Nat.reduceAdd, Nat.reduceLeDiff, ↓reduceIte, Nat.reduceLT, Nat.reduceMul, Nat.reduceSub, reduceCtorEq, frzLoc, rowCells, vAppM, beq_iff_eq, bne_iff_ne, bne_self_eq_false, beq_self_eq_true, beq_true, beq_false, I, B, w, vf87_res, vf87_keep, gx_len, gx_app, gx_get h, gx_own0, gx_own, gx_set h, gx_setOwn0, gx_setOwn, gx_er h, gx_take, gx_all0 h, gx_all h, hid, Nat.add_right_cancel_iff, Nat.lt_irrefl, cx_nlt, Nat.not_lt_zero, Nat.ne_of_lt hid, Nat.le_add_right, h106, ibne, h01, decide_not]))))
  done
end Go.Proofs.Ytahiikdkgbbmfaa
