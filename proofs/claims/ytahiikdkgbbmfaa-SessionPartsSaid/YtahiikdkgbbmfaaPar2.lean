/- Parts and boxes on the machine, second part: drawn parts. Conditions: none. -/
import Derived.Test.YtahiikdkgbbmfaaVc
import Derived.Test.YtahiikdkgbbmfaaPar1
set_option linter.unusedSimpArgs false
namespace Go.Proofs.Ytahiikdkgbbmfaa
open Go.VM
/-- a part -/
def pT (n : Int) (ts : List Tm) : Tm := .mk 3 0 (nT n :: ts)
theorem nT_row (n : Int) : (nT n).row = [I 1, I n, .sl []] := by simp [nT, Tm.row_mk]
theorem e40 (n : Int) (ts : List Tm) (h : ts.length < 1000000) : CV VP 40 [.d (I n), .d (.sl (ts.map Tm.row))] [] = some ⟨(pT n ts).ag, [], [], 0⟩ := by
  have h1 := Tm.rows3 (nT n :: ts) (by simp only [List.length_cons]; omega)
  have h2 := Tm.rows3 ts (by omega)
  have h33 := e33 h1
  have hra : (ts.map Tm.row).all (fun r => r.length == 3) = true := h2.2
  have hl : ts.length ≤ 4294967296 := by omega
  have hl2 : ts.length + 1 ≤ 4294967296 := by omega
  simp only [pT, Tm.ag, Tm.op_mk, Tm.val_mk, Tm.args_mk, List.map_cons, nT_row] at h33 ⊢
  refine CV_run (vf := vf40) rfl rfl ?_
  rw [vf40_start]
  (repeat (first
    | refine RX_seq ?_
    | refine RX_block ?_
    | ((first | refine RX_reg ?_ | refine RX_cond' ?_ | refine RX_draw0 ?_ | refine RX_draw rfl ?_ | refine RX_skip ?_ | refine RX_exit ?_ | refine RX_ret ?_); try (simp only [go_sem, Int.reduceToNat, Nat.reducePow, Int.reduceEq, Int.reduceNe, Int.reduceLT, Int.reduceLE, Nat.reduceAdd, Nat.reduceLeDiff, ↓reduceIte, Nat.reduceLT, Nat.reduceMul, Nat.reduceSub, reduceCtorEq, frzLoc, rowCells, vAppM, beq_iff_eq, bne_iff_ne, bne_self_eq_false, beq_self_eq_true, beq_true, beq_false, I, B, w, vf40_res, vf40_keep, e75, h33, hra, hl, hl2, List.length_map, Nat.add_comm 1]))))
theorem e85 (n : Int) (ts : List Tm) (h : ts.length < 1000000) : CV VP 85 [.d (I n), .d (.sl (ts.map Tm.row))] [] = some ⟨(pT n ts).ag, [], [], 0⟩ := by
  have h40 := e40 n ts h
  refine CV_run (vf := vf85) rfl rfl ?_
  rw [vf85_start]
  (repeat (first
    | refine RX_seq ?_
    | refine RX_block ?_
    | ((first | refine RX_reg ?_ | refine RX_cond' ?_ | refine RX_draw0 ?_ | refine RX_draw rfl ?_ | refine RX_skip ?_ | refine RX_exit ?_ | refine RX_ret ?_); try (simp only [go_sem, Int.reduceToNat, Nat.reducePow, Int.reduceEq, Int.reduceNe, Int.reduceLT, Int.reduceLE, Nat.reduceAdd, Nat.reduceLeDiff, ↓reduceIte, Nat.reduceLT, Nat.reduceMul, Nat.reduceSub, reduceCtorEq, frzLoc, rowCells, vAppM, beq_iff_eq, bne_iff_ne, bne_self_eq_false, beq_self_eq_true, beq_true, beq_false, I, B, w, vf85_res, vf85_keep, h40]))))
/-- the numbers of a box -/
def bqN (f0 h0 a0 f1 h1 a1 f2 h2 a2 f3 h3 a3 p0 p1 l0 l1 r0 r1 : Int) : List Tm :=
  [nT f0, nT (w h0), nT (w a0), nT f1, nT (w h1), nT (w a1), nT f2, nT (w h2), nT (w a2), nT f3, nT (w h3), nT (w a3), nT p0, nT p1, nT l0, nT l1, nT r0, nT r1]
def byT (t : List UInt8) : List Tm := t.map fun c => nT (c.toNat : Int)
set_option maxHeartbeats 4000000 in
theorem e64 (f0 h0 a0 f1 h1 a1 f2 h2 a2 f3 h3 a3 p0 p1 l0 l1 r0 r1 : Int) (t : ByteArray) (ht : t.size < 100000) :
    CV VP 64 [.agg [.d (I f0), .d (U h0), .d (U a0), .d (I f1), .d (U h1), .d (U a1), .d (I f2), .d (U h2), .d (U a2), .d (I f3), .d (U h3), .d (U a3), .d (I p0), .d (I p1), .d (I l0), .d (I l1), .d (I r0), .d (I r1)], .d (.lit (.string t))] [] =
      some ⟨(pT 11 (bqN f0 h0 a0 f1 h1 a1 f2 h2 a2 f3 h3 a3 p0 p1 l0 l1 r0 r1 ++ byT t.data.toList)).ag, [], [], 0⟩ := by
  have w0 : IntKind.i64.wrap (0 + 1) = 1 := rfl
  have w1 : IntKind.i64.wrap (1 + 1) = 2 := rfl
  have w2 : IntKind.i64.wrap (2 + 1) = 3 := rfl
  have w3 : IntKind.i64.wrap (3 + 1) = 4 := rfl
  generalize hN : bqN f0 h0 a0 f1 h1 a1 f2 h2 a2 f3 h3 a3 p0 p1 l0 l1 r0 r1 = N
  have hNr : N.map Tm.row = [[I 1, I f0, .sl []], [I 1, I (w h0), .sl []], [I 1, I (w a0), .sl []], [I 1, I f1, .sl []], [I 1, I (w h1), .sl []], [I 1, I (w a1), .sl []], [I 1, I f2, .sl []], [I 1, I (w h2), .sl []], [I 1, I (w a2), .sl []], [I 1, I f3, .sl []], [I 1, I (w h3), .sl []], [I 1, I (w a3), .sl []], [I 1, I p0, .sl []], [I 1, I p1, .sl []], [I 1, I l0, .sl []], [I 1, I l1, .sl []], [I 1, I r0, .sl []], [I 1, I r1, .sl []]] := by
    rw [← hN]; simp only [bqN, List.map_cons, List.map_nil, nT_row]
  have hNl : N.length = 18 := by rw [← hN]; rfl
  refine CV_run (vf := vf64) rfl rfl ?_
  rw [vf64_start]
  (repeat' (first
    | refine RX_seq ?_
    | refine RX_block ?_
    | ((first | refine RX_reg ?_ | refine RX_cond' ?_ | refine RX_draw0 ?_ | refine RX_draw rfl ?_ | refine RX_skip ?_ | refine RX_exit ?_ | refine RX_ret ?_); try (simp only [go_sem, Int.reduceToNat, Nat.reducePow, Int.reduceEq, Int.reduceNe, Int.reduceLT, Int.reduceLE, Nat.reduceAdd, Nat.reduceLeDiff, ↓reduceIte, Nat.reduceLT, Nat.reduceMul, Nat.reduceSub, reduceCtorEq, frzLoc, rowCells, vAppM, bne_self_eq_false, beq_self_eq_true, beq_true, beq_false, I, B, w, ibeq, ibne, bbeq, decide_eq_false_iff_not, decide_not, Bool.not_not, Decidable.not_not, Bool.not_eq_eq_eq_not, gt_iff_lt, ge_iff_le, and_false, false_and, or_self, and_self, vf64_res, vf64_keep, e75, *]))
    | (refine ite_ngo (fun _ => ?_) (fun _ => ?_) <;> try (simp only [go_sem, Int.reduceToNat, Nat.reducePow, Int.reduceEq, Int.reduceNe, Int.reduceLT, Int.reduceLE, Nat.reduceAdd, Nat.reduceLeDiff, ↓reduceIte, Nat.reduceLT, Nat.reduceMul, Nat.reduceSub, reduceCtorEq, frzLoc, rowCells, vAppM, bne_self_eq_false, beq_self_eq_true, beq_true, beq_false, I, B, w, ibeq, ibne, bbeq, decide_eq_false_iff_not, decide_not, Bool.not_not, Decidable.not_not, Bool.not_eq_eq_eq_not, gt_iff_lt, ge_iff_le, and_false, false_and, or_self, and_self, vf64_res, vf64_keep, e75, *]))
    | (refine ite_go (fun _ => ?_) (fun _ => ?_) <;> try (simp only [go_sem, Int.reduceToNat, Nat.reducePow, Int.reduceEq, Int.reduceNe, Int.reduceLT, Int.reduceLE, Nat.reduceAdd, Nat.reduceLeDiff, ↓reduceIte, Nat.reduceLT, Nat.reduceMul, Nat.reduceSub, reduceCtorEq, frzLoc, rowCells, vAppM, bne_self_eq_false, beq_self_eq_true, beq_true, beq_false, I, B, w, ibeq, ibne, bbeq, decide_eq_false_iff_not, decide_not, Bool.not_not, Decidable.not_not, Bool.not_eq_eq_eq_not, gt_iff_lt, ge_iff_le, and_false, false_and, or_self, and_self, vf64_res, vf64_keep, e75, *]))
    | (refine RL_head ?_; simp only [go_sem, Int.reduceToNat, Nat.reducePow, Int.reduceEq, Int.reduceNe, Int.reduceLT, Int.reduceLE, Nat.reduceAdd, Nat.reduceLeDiff, ↓reduceIte, Nat.reduceLT, Nat.reduceMul, Nat.reduceSub, reduceCtorEq, frzLoc, rowCells, vAppM, bne_self_eq_false, beq_self_eq_true, beq_true, beq_false, I, B, w, ibeq, ibne, bbeq, decide_eq_false_iff_not, decide_not, Bool.not_not, Decidable.not_not, Bool.not_eq_eq_eq_not, gt_iff_lt, ge_iff_le, and_false, false_and, or_self, and_self, vf64_res, vf64_keep, e75, *, St.head, forget, vf64K0, RLK_some]; refine vf64L0_go ?_)
    | refine RX_loop ?_))
  refine (?_ : RL VP vf64K1 vf64L1 2 _ _)
  refine RL_ind (fun m st => ∃ (i g gn : Nat) (rows : List (List D)), i + m = t.size ∧ rows = (N ++ byT (t.data.toList.take i)).map Tm.row ∧
    At vf64K1 2 st ((.any :: .d (.lit (.string t)) :: .any :: .any :: .ptr 1 0 :: .sl 3 rows (.own 0 g) :: .any :: .any :: .d (I (i : Nat)) :: .any :: .any :: .any :: .any :: .any :: .any :: .any :: .any :: .any :: .any :: .any :: .any :: .any :: .any :: .any :: .any :: .any :: .any :: .any :: .any :: .any :: .any :: .any :: .any :: .any :: .any :: .any :: .any :: .any :: .any :: .any :: .any :: .any :: .any :: .any :: .any :: .any :: .any :: .any :: .any :: .any :: .any :: .any :: .any :: .any :: .any :: .any :: .any :: .any :: .any :: .any :: .any :: .any :: .any :: .any :: .any :: .any :: .any :: .any :: .any :: .any :: .any :: .any :: .any :: .any :: .any :: .any :: .any :: .any :: .any :: []))
      [[.d (I f0), .d (U h0), .d (U a0), .d (I f1), .d (U h1), .d (U a1), .d (I f2), .d (U h2), .d (U a2), .d (I f3), .d (U h3), .d (U a3), .d (I p0), .d (I p1), .d (I l0), .d (I l1), .d (I r0), .d (I r1)], [.d (I 0), .d (I 0), .nil]] [g] gn 0) ?_ t.size _
    ⟨0, _, _, _, Nat.zero_add _, ?_, rfl, rfl, rfl, rfl, rfl, rfl⟩
  case refine_2 => simp only [List.take_zero, byT, List.map_nil, List.append_nil]; exact hNr.symm
  rintro m st ⟨i, g, gn, rows, hi, hrows, hat⟩ ih
  refine RL_at hat rfl rfl (vf64L1_go ?_)
  clear hat
  have hsz : t.data.toList.length = t.size := Array.length_toList
  have hrl : rows.length ≤ 200000 := by rw [hrows, List.length_map, List.length_append, hNl, byT, List.length_map, List.length_take]; omega
  cases m with
  | zero =>
    have h1 : ¬ i < t.size := by omega
    rw [List.take_of_length_le (by omega)] at hrows
    have h40 := e40 11 (N ++ byT t.data.toList) (by rw [List.length_append, hNl, byT, List.length_map]; omega)
    rw [← hrows] at h40
    simp only [pT, Tm.ag, Tm.op_mk, Tm.val_mk, Tm.args_mk] at h40 ⊢
    generalize N ++ byT t.data.toList = A at *
    (repeat (first
    | refine RX_seq ?_
    | refine RX_block ?_
    | ((first | refine RX_reg ?_ | refine RX_cond' ?_ | refine RX_draw0 ?_ | refine RX_draw rfl ?_ | refine RX_skip ?_ | refine RX_exit ?_ | refine RX_ret ?_); try (simp only [go_sem, Int.reduceToNat, Nat.reducePow, Int.reduceEq, Int.reduceNe, Int.reduceLT, Int.reduceLE, Nat.reduceAdd, Nat.reduceLeDiff, ↓reduceIte, Nat.reduceLT, Nat.reduceMul, Nat.reduceSub, reduceCtorEq, frzLoc, rowCells, vAppM, beq_iff_eq, bne_iff_ne, bne_self_eq_false, beq_self_eq_true, beq_true, beq_false, I, B, w, vf64_res, vf64_keep, h1, h40, V.str]))))
  | succ m =>
    have h1 : i < t.size := by omega
    have hb : t[i]? = some t[i] := getElem?_pos t i h1
    have hb2 : t.data.toList[i]? = some t[i] := by rw [Array.getElem?_toList]; exact Array.getElem?_eq_getElem h1
    generalize t[i] = b at *
    have wb : IntKind.i64.wrap (b.toNat : Int) = (b.toNat : Int) := w_in (by omega) (by have := b.toNat_lt; omega)
    have hwi := w_nat (i := i) (by omega)
    have hr1 : rows.length + 1 ≤ 4294967296 := by omega
    (repeat (first
    | refine RX_seq ?_
    | refine RX_block ?_
    | ((first | refine RX_reg ?_ | refine RX_cond' ?_ | refine RX_draw0 ?_ | refine RX_draw rfl ?_ | refine RX_skip ?_ | refine RX_exit ?_ | refine RX_ret ?_); try (simp only [go_sem, Int.reduceToNat, Nat.reducePow, Int.reduceEq, Int.reduceNe, Int.reduceLT, Int.reduceLE, Nat.reduceAdd, Nat.reduceLeDiff, ↓reduceIte, Nat.reduceLT, Nat.reduceMul, Nat.reduceSub, reduceCtorEq, frzLoc, rowCells, vAppM, beq_iff_eq, bne_iff_ne, bne_self_eq_false, beq_self_eq_true, beq_true, beq_false, I, B, w, vf64_res, vf64_keep, h1, hb, wb, V.str, e75, hwi, hr1]))))
    refine ih m _ (Nat.lt_succ_self m) ⟨i + 1, _, _, _, by omega, ?_, rfl, rfl, rfl, rfl, rfl, rfl⟩
    rw [hrows, List.take_add_one, hb2]
    simp [byT, nT_row]
end Go.Proofs.Ytahiikdkgbbmfaa

namespace Go.Proofs.Ytahiikdkgbbmfaa
open Go.VM
theorem e40r (n : Int) (rows : List (List D)) (h : rows.length ≤ 1000000) (hr : rows.all (fun r => r.length == 3) = true) : CV VP 40 [.d (I n), .d (.sl rows)] [] = some ⟨.agg [.d (I 3), .d (I 0), .d (.sl ([I 1, I n, .sl []] :: rows))], [], [], 0⟩ := by
  have h33 := e33 (rows := [I 1, I n, .sl []] :: rows) ⟨by simp only [List.length_cons]; omega, by simp [hr]⟩
  have hl : rows.length ≤ 4294967296 := by omega
  have hl2 : rows.length + 1 ≤ 4294967296 := by omega
  refine CV_run (vf := vf40) rfl rfl ?_
  rw [vf40_start]
  (repeat (first
    | refine RX_seq ?_
    | refine RX_block ?_
    | ((first | refine RX_reg ?_ | refine RX_cond' ?_ | refine RX_draw0 ?_ | refine RX_draw rfl ?_ | refine RX_skip ?_ | refine RX_exit ?_ | refine RX_ret ?_); try (simp only [go_sem, Int.reduceToNat, Nat.reducePow, Int.reduceEq, Int.reduceNe, Int.reduceLT, Int.reduceLE, Nat.reduceAdd, Nat.reduceLeDiff, ↓reduceIte, Nat.reduceLT, Nat.reduceMul, Nat.reduceSub, reduceCtorEq, frzLoc, rowCells, vAppM, beq_iff_eq, bne_iff_ne, bne_self_eq_false, beq_self_eq_true, beq_true, beq_false, I, B, w, vf40_res, vf40_keep, e75, h33, hr, hl, hl2, Nat.add_comm 1]))))
theorem e85r (n : Int) (rows : List (List D)) (h : rows.length ≤ 1000000) (hr : rows.all (fun r => r.length == 3) = true) : CV VP 85 [.d (I n), .d (.sl rows)] [] = some ⟨.agg [.d (I 3), .d (I 0), .d (.sl ([I 1, I n, .sl []] :: rows))], [], [], 0⟩ := by
  have h40 := e40r n rows h hr
  refine CV_run (vf := vf85) rfl rfl ?_
  rw [vf85_start]
  (repeat (first
    | refine RX_seq ?_
    | refine RX_block ?_
    | ((first | refine RX_reg ?_ | refine RX_cond' ?_ | refine RX_draw0 ?_ | refine RX_draw rfl ?_ | refine RX_skip ?_ | refine RX_exit ?_ | refine RX_ret ?_); try (simp only [go_sem, Int.reduceToNat, Nat.reducePow, Int.reduceEq, Int.reduceNe, Int.reduceLT, Int.reduceLE, Nat.reduceAdd, Nat.reduceLeDiff, ↓reduceIte, Nat.reduceLT, Nat.reduceMul, Nat.reduceSub, reduceCtorEq, frzLoc, rowCells, vAppM, beq_iff_eq, bne_iff_ne, bne_self_eq_false, beq_self_eq_true, beq_true, beq_false, I, B, w, vf85_res, vf85_keep, h40]))))
theorem e85n (n : Int) : CV VP 85 [.d (I n), .d (.sl [])] [] = some ⟨.agg [.d (I 3), .d (I 0), .d (.sl [[I 1, I n, .sl []]])], [], [], 0⟩ := e85r n [] (by decide) rfl
/-- lists that are drawn, one behind the other -/
def drC {α : Type} (f : Nat → List α × Nat) : Nat → Nat → List α × Nat
  | 0, k => ([], k)
  | n + 1, k => ((f k).1 ++ (drC f n (f k).2).1, (drC f n (f k).2).2)
/-- the part of a box -/
def bxPt (b : Bx) (t : ByteArray) : Tm := pT 11 (bqN b.f b.h b.a0 b.f b.h b.b0 b.f b.h b.a1 b.f b.h b.b1 b.p0 b.p1 b.l0 b.l1 b.r0 b.r1 ++ byT t.data.toList)
def exx : ByteArray := ⟨#[120]⟩
def paNm (x : Int) : ByteArray := if x = 2 then silver else if x = 3 then exx else gold
/-- the parts that are drawn in one round -/
def paF (l : List Int) (s : Int) (b : Bx) (k : Nat) : List Tm × Nat :=
  let x := nxV l k 14
  let k1 := nxA l k
  let k2 := nxA l k1
  if x = 0 ∨ x = 1 ∨ x = 2 then ([pT 10 [nT (5000 + nxV l k1 4)], bxPt b (paNm (nxV l k2 4))], nxA l k2)
  else if x = 3 ∨ x = 4 ∨ x = 5 then ([pT 3 [gNm (1 - s) (900 + nxV l k1 20)]], k2)
  else if x = 6 ∨ x = 7 then ([pT 13 [nT 1]], k1)
  else if x = 8 then ([pT 2 [nT 31, .mk 4 0 [gNm (1 - s) 930]], pT 10 [nT 6000]], k1)
  else if x = 9 then ([pT 14 [nT 1, nT (nxV l k1 9)]], k2)
  else if x = 10 then ([pT (if nxV l k1 2 = 0 then 15 else 16) []], k2)
  else if x = 11 then ([pT 17 [nmT l k1]], nmA l k1)
  else if x = 12 then ([pT 12 [nT (if nxV l k1 3 = 0 then 43 else if nxV l k1 3 = 1 then 44 else 7)]], k2)
  else ([pT (1 + nxV l k1 18) (drS l 2 1 k2).1], (drS l 2 1 k2).2)
theorem gNm_row (a b : Int) : (gNm a b).row = [I 2, I (w (w (a * 1048576) + b)), .sl []] := by simp [gNm, Tm.row_mk]
theorem nmT_row (l : List Int) (k : Nat) : (nmT l k).row = [I 2, I (nmV l k), .sl []] := by simp [nmT, Tm.row_mk]
theorem pT_row (n : Int) (ts : List Tm) : (pT n ts).row = [I 3, I 0, .sl ([I 1, I n, .sl []] :: ts.map Tm.row)] := by simp [pT, Tm.row_mk, nT_row]
end Go.Proofs.Ytahiikdkgbbmfaa

namespace Go.Proofs.Ytahiikdkgbbmfaa
open Go.VM
set_option maxRecDepth 20000 in
set_option maxHeartbeats 8000000 in
/-- one round of the loop of Parts -/
theorem L37 {l : List Int} (hB : Bytes l) (s : Int) (hs : s = 0 ∨ s = 1) (gt : List V) (hgc : V.erL gt = gt) (hgl : ∀ n, V.ltbL n gt = true) (b : Bx) (id : Nat) {bl : List (List V)} (h : CtxOk bl id)
    {Q : VExit → St → Prop} (m : Nat) (k : Nat) (acc : List Tm) (v : V) (live : List Nat) (gn : Nat) (hm : m < 100) (ha : acc.length + 2 * m < 1000) (hv : Acc 3 v live (acc.map Tm.row)) (st : St)
    (hat : At vf37K0 (bl.length + 2) st ((.ptr id 0 :: .any :: .any :: .ptr bl.length 0 :: .any :: .d (I 1) :: .ptr (bl.length + 1) 0 :: v :: .d (I ((m : Int) - 1)) :: .any :: .any :: .any :: .any :: .any :: .any :: .any :: .any :: .any :: .any :: .any :: .any :: .any :: .any :: .any :: .any :: .any :: .any :: .any :: .any :: .any :: .any :: .any :: .any :: .any :: .any :: .any :: .any :: .any :: .any :: .any :: .any :: .any :: .any :: .any :: .any :: .any :: .any :: .any :: .any :: .any :: .any :: .any :: .any :: .any :: .any :: .any :: .any :: .any :: .any :: .any :: .any :: .any :: .any :: .any :: .any :: .any :: .any :: .any :: .any :: .any :: .any :: .any :: .any :: .any :: .any :: .any :: .any :: .any :: .any :: .any :: .any :: .any :: .any :: .any :: .any :: .any :: .any :: .any :: .any :: .any :: .any :: .any :: .any :: .any :: .any :: .any :: .any :: .any :: .any :: .any :: .any :: .any :: .any :: .any :: .any :: .any :: .any :: .any :: .any :: .any :: .any :: .any :: .any :: .any :: .any :: .any :: .any :: .any :: .any :: .any :: .any :: .any :: .any :: .any :: .any :: .any :: .any :: .any :: .any :: .any :: .any :: .any :: .any :: .any :: .any :: .any :: .any :: .any :: .any :: .any :: .any :: .any :: .any :: .any :: .any :: .any :: .any :: .any :: .any :: .any :: .any :: .any :: .any :: .any :: .any :: .any :: .any :: .any :: .any :: .any :: .any :: .any :: .any :: .any :: .any :: .any :: .any :: .any :: .any :: .any :: .any :: .any :: .any :: .any :: [])) (cx bl id l (k : Nat) [.d (I s) :: gt, b.row.map .d]) live gn bl.length)
    (hQ : ∀ v live gn st, Acc 3 v live ((acc ++ (drC (paF l s b) m k).1).map Tm.row) → At vf37K0 (bl.length + 2) st ((.ptr id 0 :: .any :: .any :: .ptr bl.length 0 :: .any :: .d (I 1) :: .ptr (bl.length + 1) 0 :: v :: .d (I (-1)) :: .any :: .any :: .any :: .any :: .any :: .any :: .any :: .any :: .any :: .any :: .any :: .any :: .any :: .any :: .any :: .any :: .any :: .any :: .any :: .any :: .any :: .any :: .any :: .any :: .any :: .any :: .any :: .any :: .any :: .any :: .any :: .any :: .any :: .any :: .any :: .any :: .any :: .any :: .any :: .any :: .any :: .any :: .any :: .any :: .any :: .any :: .any :: .any :: .any :: .any :: .any :: .any :: .any :: .any :: .any :: .any :: .any :: .any :: .any :: .any :: .any :: .any :: .any :: .any :: .any :: .any :: .any :: .any :: .any :: .any :: .any :: .any :: .any :: .any :: .any :: .any :: .any :: .any :: .any :: .any :: .any :: .any :: .any :: .any :: .any :: .any :: .any :: .any :: .any :: .any :: .any :: .any :: .any :: .any :: .any :: .any :: .any :: .any :: .any :: .any :: .any :: .any :: .any :: .any :: .any :: .any :: .any :: .any :: .any :: .any :: .any :: .any :: .any :: .any :: .any :: .any :: .any :: .any :: .any :: .any :: .any :: .any :: .any :: .any :: .any :: .any :: .any :: .any :: .any :: .any :: .any :: .any :: .any :: .any :: .any :: .any :: .any :: .any :: .any :: .any :: .any :: .any :: .any :: .any :: .any :: .any :: .any :: .any :: .any :: .any :: .any :: .any :: .any :: .any :: .any :: .any :: .any :: .any :: .any :: .any :: .any :: .any :: .any :: .any :: .any :: [])) (cx bl id l ((drC (paF l s b) m k).2 : Nat) [.d (I s) :: gt, b.row.map .d]) live gn bl.length → RL VP vf37K0 vf37L0 (bl.length + 2) st Q) :
    RL VP vf37K0 vf37L0 (bl.length + 2) st Q := by
  induction m generalizing k acc v live gn st with
  | zero =>
    refine hQ v live gn st (by simpa [drC] using hv) ?_
    simpa [drC] using hat
  | succ m ih =>
    have hpa : ∀ v live gn st, Acc 3 v live ((acc ++ (paF l s b k).1).map Tm.row) → At vf37K0 (bl.length + 2) st ((.ptr id 0 :: .any :: .any :: .ptr bl.length 0 :: .any :: .d (I 1) :: .ptr (bl.length + 1) 0 :: v :: .d (I ((m : Int) - 1)) :: .any :: .any :: .any :: .any :: .any :: .any :: .any :: .any :: .any :: .any :: .any :: .any :: .any :: .any :: .any :: .any :: .any :: .any :: .any :: .any :: .any :: .any :: .any :: .any :: .any :: .any :: .any :: .any :: .any :: .any :: .any :: .any :: .any :: .any :: .any :: .any :: .any :: .any :: .any :: .any :: .any :: .any :: .any :: .any :: .any :: .any :: .any :: .any :: .any :: .any :: .any :: .any :: .any :: .any :: .any :: .any :: .any :: .any :: .any :: .any :: .any :: .any :: .any :: .any :: .any :: .any :: .any :: .any :: .any :: .any :: .any :: .any :: .any :: .any :: .any :: .any :: .any :: .any :: .any :: .any :: .any :: .any :: .any :: .any :: .any :: .any :: .any :: .any :: .any :: .any :: .any :: .any :: .any :: .any :: .any :: .any :: .any :: .any :: .any :: .any :: .any :: .any :: .any :: .any :: .any :: .any :: .any :: .any :: .any :: .any :: .any :: .any :: .any :: .any :: .any :: .any :: .any :: .any :: .any :: .any :: .any :: .any :: .any :: .any :: .any :: .any :: .any :: .any :: .any :: .any :: .any :: .any :: .any :: .any :: .any :: .any :: .any :: .any :: .any :: .any :: .any :: .any :: .any :: .any :: .any :: .any :: .any :: .any :: .any :: .any :: .any :: .any :: .any :: .any :: .any :: .any :: .any :: .any :: .any :: .any :: .any :: .any :: .any :: .any :: .any :: [])) (cx bl id l ((paF l s b k).2 : Nat) [.d (I s) :: gt, b.row.map .d]) live gn bl.length → (paF l s b k).1.length ≤ 2 → RL VP vf37K0 vf37L0 (bl.length + 2) st Q := by
      intro v live gn st hv hat hlen
      refine ih (paF l s b k).2 _ v live gn (by omega) (by rw [List.length_append]; omega) hv st hat fun v live gn st hv hat => hQ v live gn st ?_ ?_
      · rw [drC]; simpa [List.append_assoc] using hv
      · rw [drC]; exact hat
    clear hQ ih
    have cN : ∀ (n : Int), 0 < n → n ≤ 256 → ∀ (k : Nat) (own : List (List V)), own.map V.erL = own → own.all (V.ltbL (bl.length + own.length)) = true → CV VP 29 [.ptr id 0, .d (I n)] (cx bl id l (k : Nat) own) = some ⟨.d (I (nxV l k n)), cx bl id l (nxA l k : Nat) own, [], 0⟩ := fun n h1 h2 k own => e29 hB h h1 h2
    have c14 := cN 14 (by decide) (by decide)
    have c4 := cN 4 (by decide) (by decide)
    have c20 := cN 20 (by decide) (by decide)
    have c9 := cN 9 (by decide) (by decide)
    have c2 := cN 2 (by decide) (by decide)
    have c3 := cN 3 (by decide) (by decide)
    have c18 := cN 18 (by decide) (by decide)
    have c68 : ∀ (k : Nat) (own : List (List V)), own.map V.erL = own → own.all (V.ltbL (bl.length + own.length)) = true → CV VP 68 [.ptr id 0] (cx bl id l (k : Nat) own) = some ⟨.agg [.d (I 2), .d (I (nmV l k)), .d (.sl [])], cx bl id l (nmA l k : Nat) own, [], 0⟩ := fun k own => cx_lift (fun bl h => e68b hB id k bl h) h
    have c22 : ∀ (k : Nat) (own : List (List V)), own.map V.erL = own → own.all (V.ltbL (bl.length + own.length)) = true → CV VP 22 [.ptr id 0, .d (I 2), .d (I 2)] (cx bl id l (k : Nat) own) = some ⟨.d (.sl ((drS l 2 1 k).1.map Tm.row)), cx bl id l ((drS l 2 1 k).2 : Nat) own, [], 0⟩ := fun k own => cx_lift (fun bl h => e22b hB 2 (by decide) (by decide) 1 (by decide) id k bl h) h
    have r14 := nxV_range hB (k := k) (n := 14) (by decide)
    have q4 := nxV_range hB (k := nxA l k) (n := 4) (by decide)
    have q4b := nxV_range hB (k := nxA l (nxA l k)) (n := 4) (by decide)
    have q20 := nxV_range hB (k := nxA l k) (n := 20) (by decide)
    have q2 := nxV_range hB (k := nxA l k) (n := 2) (by decide)
    have q3 := nxV_range hB (k := nxA l k) (n := 3) (by decide)
    have q18 := nxV_range hB (k := nxA l k) (n := 18) (by decide)
    have m4 : IntKind.i64.wrap (5000 + nxV l (nxA l k) 4) = 5000 + nxV l (nxA l k) 4 := w_in (by omega) (by omega)
    have m20 : IntKind.i64.wrap (900 + nxV l (nxA l k) 20) = 900 + nxV l (nxA l k) 20 := w_in (by omega) (by omega)
    have m18 : IntKind.i64.wrap (1 + nxV l (nxA l k) 18) = 1 + nxV l (nxA l k) 18 := w_in (by omega) (by omega)
    have ms : IntKind.i64.wrap (1 - s) = 1 - s := w_in (by omega) (by omega)
    have hwm : IntKind.i64.wrap (((m + 1 : Nat) : Int) - 1 - 1) = (m : Int) - 1 := by rw [w_in (by omega) (by omega)]; omega
    have hge : (0 : Int) ≤ ((m + 1 : Nat) : Int) - 1 := by omega
    have h64 : ∀ t, t = gold ∨ t = silver ∨ t = exx → CV VP 64 [b.ag, .d (.lit (.string t))] [] = some ⟨.agg [.d (I 3), .d (I 0), .d (.sl ((bxPt b t).args.map Tm.row))], [], [], 0⟩ := fun t ht => e64 _ _ _ _ _ _ _ _ _ _ _ _ _ _ _ _ _ _ t (by rcases ht with rfl | rfl | rfl <;> decide)
    have h64g := h64 gold (.inl rfl)
    have h64s := h64 silver (.inr (.inl rfl))
    have h64x := h64 exx (.inr (.inr rfl))
    have bxr : ∀ t, (bxPt b t).row = [I 3, I 0, .sl ((bxPt b t).args.map Tm.row)] := fun t => Tm.row_eq _
    have hdl : (drS l 2 1 (nxA l (nxA l k))).1.length ≤ 2 := by
      have := nxV_range hB (k := nxA l (nxA l k)) (n := 2 + 1) (by decide)
      rw [drS, drL_len]; omega
    have hd1 : ((drS l 2 1 (nxA l (nxA l k))).1.map Tm.row).length ≤ 1000000 := by rw [List.length_map]; omega
    have hd2 := (Tm.rows3 (drS l 2 1 (nxA l (nxA l k))).1 (by omega)).2
    have hdr := fun n => e40r n _ hd1 hd2
    have a1 : acc.length + 1 ≤ 4294967296 := by omega
    have a2 : acc.length + 2 ≤ 4294967296 := by omega
    have hid := h.lt
    have hg1 : 1 ≤ gt.length + 1 := by omega
    have hb2 : bl.length < bl.length + 2 := by omega
    have hb3 : bl.length + 1 < bl.length + 2 := by omega
    have hid2 : id < bl.length + 2 := by omega
    clear cN h64
    simp only [gold, silver, exx] at h64g h64s h64x
    have hx : nxV l k 14 = 0 ∨ nxV l k 14 = 1 ∨ nxV l k 14 = 2 ∨ nxV l k 14 = 3 ∨ nxV l k 14 = 4 ∨ nxV l k 14 = 5 ∨ nxV l k 14 = 6 ∨ nxV l k 14 = 7 ∨ nxV l k 14 = 8 ∨ nxV l k 14 = 9 ∨ nxV l k 14 = 10 ∨ nxV l k 14 = 11 ∨ nxV l k 14 = 12 ∨ nxV l k 14 = 13 := by omega
    have hx4 : nxV l (nxA l (nxA l k)) 4 = 0 ∨ nxV l (nxA l (nxA l k)) 4 = 1 ∨ nxV l (nxA l (nxA l k)) 4 = 2 ∨ nxV l (nxA l (nxA l k)) 4 = 3 := by omega
    have hx2 : nxV l (nxA l k) 2 = 0 ∨ nxV l (nxA l k) 2 = 1 := by omega
    have hx3 : nxV l (nxA l k) 3 = 0 ∨ nxV l (nxA l k) 3 = 1 ∨ nxV l (nxA l k) 3 = 2 := by omega
    clear r14 q4 q4b q20 q2 q3 q18 hs hB
    rcases hx with hx | hx | hx | hx | hx | hx | hx | hx | hx | hx | hx | hx | hx | hx
    · have hp := hpa
      simp only [paF, hx, Int.reduceEq, or_false, false_or, or_true, true_or, if_true, if_false, or_self] at hp
      clear hpa
      rcases hx4 with hx4 | hx4 | hx4 | hx4
      all_goals
        simp only [paNm, hx4, Int.reduceEq, if_true, if_false] at hp
        rcases hv with ⟨rfl, rfl, hr0⟩ | ⟨g, rfl, rfl⟩ <;>
        · refine RL_at hat (by (simp only [go_sem, Int.reduceToNat, Nat.reducePow, Int.reduceEq, Int.reduceNe, Int.reduceLT, Int.reduceLE, Nat.reduceAdd, Nat.reduceLeDiff, ↓reduceIte, Nat.reduceLT, Nat.reduceMul, Nat.reduceSub, reduceCtorEq, frzLoc, rowCells, vAppM, beq_iff_eq, bne_iff_ne, bne_self_eq_false, beq_self_eq_true, beq_true, beq_false, I, B, w, cx_len, cx_app, cx_own0, cx_own, cx_setOwn0, cx_setOwn, cx_take, cx_takeN, Nat.add_right_cancel_iff, Nat.lt_irrefl, cx_nlt, Nat.not_lt_zero, cx_get' h, cx_setId' h, cx_er h, cx_all0 h, cx_all h, CtxOk.lt h, hb2, hb3, hid2])) (by (simp only [go_sem, Int.reduceToNat, Nat.reducePow, Int.reduceEq, Int.reduceNe, Int.reduceLT, Int.reduceLE, Nat.reduceAdd, Nat.reduceLeDiff, ↓reduceIte, Nat.reduceLT, Nat.reduceMul, Nat.reduceSub, reduceCtorEq, frzLoc, rowCells, vAppM, beq_iff_eq, bne_iff_ne, bne_self_eq_false, beq_self_eq_true, beq_true, beq_false, I, B, w, cx_len, cx_app, cx_own0, cx_own, cx_setOwn0, cx_setOwn, cx_take, cx_takeN, Nat.add_right_cancel_iff, Nat.lt_irrefl, cx_nlt, Nat.not_lt_zero, cx_get' h, cx_setId' h, cx_er h, cx_all0 h, cx_all h, CtxOk.lt h, hgl, hb2, hb3, hid2])) (vf37L0_go ?_)
          (repeat (first
    | refine RX_seq ?_
    | refine RX_block ?_
    | ((first | refine RX_reg ?_ | refine RX_cond' ?_ | refine RX_draw0 ?_ | refine RX_draw rfl ?_ | refine RX_skip ?_ | refine RX_exit ?_ | refine RX_ret ?_); try (simp only [go_sem, Int.reduceToNat, Nat.reducePow, Int.reduceEq, Int.reduceNe, Int.reduceLT, Int.reduceLE, Nat.reduceAdd, Nat.reduceLeDiff, ↓reduceIte, Nat.reduceLT, Nat.reduceMul, Nat.reduceSub, reduceCtorEq, frzLoc, rowCells, vAppM, beq_iff_eq, bne_iff_ne, bne_self_eq_false, beq_self_eq_true, beq_true, beq_false, I, B, w, vf37_res, vf37_keep, cx_len, cx_app, cx_own0, cx_own, cx_setOwn0, cx_setOwn, cx_take, cx_takeN, Nat.add_right_cancel_iff, Nat.lt_irrefl, cx_nlt, Nat.not_lt_zero, cx_get' h, cx_setId' h, cx_er h, cx_all0 h, cx_all h, CtxOk.lt h, gt_iff_lt, ge_iff_le, ibeq, hg1, hgc, hgl, c14, c4, c20, c9, c2, c3, c18, c68, c22, m4, m20, m18, ms, hwm, hge, h64g, h64s, h64x, hdr, a1, a2, hid, hb2, hb3, hid2, e75, e70, e77, e85n, e85r, List.length_map, hx, hx4]))))
          refine hp _ _ _ _ (.inr ⟨_, ?_, rfl⟩) ⟨rfl, ?_, rfl, rfl, rfl, rfl⟩ (by simp)
          · first | (rw [List.map_append, hr0]; simp [pT_row, nT_row, gNm_row, nmT_row, bxr, Tm.row_mk, gold, silver, exx]; done) | (rw [List.map_append]; simp [pT_row, nT_row, gNm_row, nmT_row, bxr, Tm.row_mk, gold, silver, exx]; done)
          · (simp only [cx_takeN, List.take_succ_cons, List.take_zero] <;> try rfl)
    · have hp := hpa
      simp only [paF, hx, Int.reduceEq, or_false, false_or, or_true, true_or, if_true, if_false, or_self] at hp
      clear hpa
      rcases hx4 with hx4 | hx4 | hx4 | hx4
      all_goals
        simp only [paNm, hx4, Int.reduceEq, if_true, if_false] at hp
        rcases hv with ⟨rfl, rfl, hr0⟩ | ⟨g, rfl, rfl⟩ <;>
        · refine RL_at hat (by (simp only [go_sem, Int.reduceToNat, Nat.reducePow, Int.reduceEq, Int.reduceNe, Int.reduceLT, Int.reduceLE, Nat.reduceAdd, Nat.reduceLeDiff, ↓reduceIte, Nat.reduceLT, Nat.reduceMul, Nat.reduceSub, reduceCtorEq, frzLoc, rowCells, vAppM, beq_iff_eq, bne_iff_ne, bne_self_eq_false, beq_self_eq_true, beq_true, beq_false, I, B, w, cx_len, cx_app, cx_own0, cx_own, cx_setOwn0, cx_setOwn, cx_take, cx_takeN, Nat.add_right_cancel_iff, Nat.lt_irrefl, cx_nlt, Nat.not_lt_zero, cx_get' h, cx_setId' h, cx_er h, cx_all0 h, cx_all h, CtxOk.lt h, hb2, hb3, hid2])) (by (simp only [go_sem, Int.reduceToNat, Nat.reducePow, Int.reduceEq, Int.reduceNe, Int.reduceLT, Int.reduceLE, Nat.reduceAdd, Nat.reduceLeDiff, ↓reduceIte, Nat.reduceLT, Nat.reduceMul, Nat.reduceSub, reduceCtorEq, frzLoc, rowCells, vAppM, beq_iff_eq, bne_iff_ne, bne_self_eq_false, beq_self_eq_true, beq_true, beq_false, I, B, w, cx_len, cx_app, cx_own0, cx_own, cx_setOwn0, cx_setOwn, cx_take, cx_takeN, Nat.add_right_cancel_iff, Nat.lt_irrefl, cx_nlt, Nat.not_lt_zero, cx_get' h, cx_setId' h, cx_er h, cx_all0 h, cx_all h, CtxOk.lt h, hgl, hb2, hb3, hid2])) (vf37L0_go ?_)
          (repeat (first
    | refine RX_seq ?_
    | refine RX_block ?_
    | ((first | refine RX_reg ?_ | refine RX_cond' ?_ | refine RX_draw0 ?_ | refine RX_draw rfl ?_ | refine RX_skip ?_ | refine RX_exit ?_ | refine RX_ret ?_); try (simp only [go_sem, Int.reduceToNat, Nat.reducePow, Int.reduceEq, Int.reduceNe, Int.reduceLT, Int.reduceLE, Nat.reduceAdd, Nat.reduceLeDiff, ↓reduceIte, Nat.reduceLT, Nat.reduceMul, Nat.reduceSub, reduceCtorEq, frzLoc, rowCells, vAppM, beq_iff_eq, bne_iff_ne, bne_self_eq_false, beq_self_eq_true, beq_true, beq_false, I, B, w, vf37_res, vf37_keep, cx_len, cx_app, cx_own0, cx_own, cx_setOwn0, cx_setOwn, cx_take, cx_takeN, Nat.add_right_cancel_iff, Nat.lt_irrefl, cx_nlt, Nat.not_lt_zero, cx_get' h, cx_setId' h, cx_er h, cx_all0 h, cx_all h, CtxOk.lt h, gt_iff_lt, ge_iff_le, ibeq, hg1, hgc, hgl, c14, c4, c20, c9, c2, c3, c18, c68, c22, m4, m20, m18, ms, hwm, hge, h64g, h64s, h64x, hdr, a1, a2, hid, hb2, hb3, hid2, e75, e70, e77, e85n, e85r, List.length_map, hx, hx4]))))
          refine hp _ _ _ _ (.inr ⟨_, ?_, rfl⟩) ⟨rfl, ?_, rfl, rfl, rfl, rfl⟩ (by simp)
          · first | (rw [List.map_append, hr0]; simp [pT_row, nT_row, gNm_row, nmT_row, bxr, Tm.row_mk, gold, silver, exx]; done) | (rw [List.map_append]; simp [pT_row, nT_row, gNm_row, nmT_row, bxr, Tm.row_mk, gold, silver, exx]; done)
          · (simp only [cx_takeN, List.take_succ_cons, List.take_zero] <;> try rfl)
    · have hp := hpa
      simp only [paF, hx, Int.reduceEq, or_false, false_or, or_true, true_or, if_true, if_false, or_self] at hp
      clear hpa
      rcases hx4 with hx4 | hx4 | hx4 | hx4
      all_goals
        simp only [paNm, hx4, Int.reduceEq, if_true, if_false] at hp
        rcases hv with ⟨rfl, rfl, hr0⟩ | ⟨g, rfl, rfl⟩ <;>
        · refine RL_at hat (by (simp only [go_sem, Int.reduceToNat, Nat.reducePow, Int.reduceEq, Int.reduceNe, Int.reduceLT, Int.reduceLE, Nat.reduceAdd, Nat.reduceLeDiff, ↓reduceIte, Nat.reduceLT, Nat.reduceMul, Nat.reduceSub, reduceCtorEq, frzLoc, rowCells, vAppM, beq_iff_eq, bne_iff_ne, bne_self_eq_false, beq_self_eq_true, beq_true, beq_false, I, B, w, cx_len, cx_app, cx_own0, cx_own, cx_setOwn0, cx_setOwn, cx_take, cx_takeN, Nat.add_right_cancel_iff, Nat.lt_irrefl, cx_nlt, Nat.not_lt_zero, cx_get' h, cx_setId' h, cx_er h, cx_all0 h, cx_all h, CtxOk.lt h, hb2, hb3, hid2])) (by (simp only [go_sem, Int.reduceToNat, Nat.reducePow, Int.reduceEq, Int.reduceNe, Int.reduceLT, Int.reduceLE, Nat.reduceAdd, Nat.reduceLeDiff, ↓reduceIte, Nat.reduceLT, Nat.reduceMul, Nat.reduceSub, reduceCtorEq, frzLoc, rowCells, vAppM, beq_iff_eq, bne_iff_ne, bne_self_eq_false, beq_self_eq_true, beq_true, beq_false, I, B, w, cx_len, cx_app, cx_own0, cx_own, cx_setOwn0, cx_setOwn, cx_take, cx_takeN, Nat.add_right_cancel_iff, Nat.lt_irrefl, cx_nlt, Nat.not_lt_zero, cx_get' h, cx_setId' h, cx_er h, cx_all0 h, cx_all h, CtxOk.lt h, hgl, hb2, hb3, hid2])) (vf37L0_go ?_)
          (repeat (first
    | refine RX_seq ?_
    | refine RX_block ?_
    | ((first | refine RX_reg ?_ | refine RX_cond' ?_ | refine RX_draw0 ?_ | refine RX_draw rfl ?_ | refine RX_skip ?_ | refine RX_exit ?_ | refine RX_ret ?_); try (simp only [go_sem, Int.reduceToNat, Nat.reducePow, Int.reduceEq, Int.reduceNe, Int.reduceLT, Int.reduceLE, Nat.reduceAdd, Nat.reduceLeDiff, ↓reduceIte, Nat.reduceLT, Nat.reduceMul, Nat.reduceSub, reduceCtorEq, frzLoc, rowCells, vAppM, beq_iff_eq, bne_iff_ne, bne_self_eq_false, beq_self_eq_true, beq_true, beq_false, I, B, w, vf37_res, vf37_keep, cx_len, cx_app, cx_own0, cx_own, cx_setOwn0, cx_setOwn, cx_take, cx_takeN, Nat.add_right_cancel_iff, Nat.lt_irrefl, cx_nlt, Nat.not_lt_zero, cx_get' h, cx_setId' h, cx_er h, cx_all0 h, cx_all h, CtxOk.lt h, gt_iff_lt, ge_iff_le, ibeq, hg1, hgc, hgl, c14, c4, c20, c9, c2, c3, c18, c68, c22, m4, m20, m18, ms, hwm, hge, h64g, h64s, h64x, hdr, a1, a2, hid, hb2, hb3, hid2, e75, e70, e77, e85n, e85r, List.length_map, hx, hx4]))))
          refine hp _ _ _ _ (.inr ⟨_, ?_, rfl⟩) ⟨rfl, ?_, rfl, rfl, rfl, rfl⟩ (by simp)
          · first | (rw [List.map_append, hr0]; simp [pT_row, nT_row, gNm_row, nmT_row, bxr, Tm.row_mk, gold, silver, exx]; done) | (rw [List.map_append]; simp [pT_row, nT_row, gNm_row, nmT_row, bxr, Tm.row_mk, gold, silver, exx]; done)
          · (simp only [cx_takeN, List.take_succ_cons, List.take_zero] <;> try rfl)
    · have hp := hpa
      simp only [paF, hx, Int.reduceEq, or_false, false_or, or_true, true_or, if_true, if_false, or_self] at hp
      clear hpa
      rcases hv with ⟨rfl, rfl, hr0⟩ | ⟨g, rfl, rfl⟩ <;>
      · refine RL_at hat (by (simp only [go_sem, Int.reduceToNat, Nat.reducePow, Int.reduceEq, Int.reduceNe, Int.reduceLT, Int.reduceLE, Nat.reduceAdd, Nat.reduceLeDiff, ↓reduceIte, Nat.reduceLT, Nat.reduceMul, Nat.reduceSub, reduceCtorEq, frzLoc, rowCells, vAppM, beq_iff_eq, bne_iff_ne, bne_self_eq_false, beq_self_eq_true, beq_true, beq_false, I, B, w, cx_len, cx_app, cx_own0, cx_own, cx_setOwn0, cx_setOwn, cx_take, cx_takeN, Nat.add_right_cancel_iff, Nat.lt_irrefl, cx_nlt, Nat.not_lt_zero, cx_get' h, cx_setId' h, cx_er h, cx_all0 h, cx_all h, CtxOk.lt h, hb2, hb3, hid2])) (by (simp only [go_sem, Int.reduceToNat, Nat.reducePow, Int.reduceEq, Int.reduceNe, Int.reduceLT, Int.reduceLE, Nat.reduceAdd, Nat.reduceLeDiff, ↓reduceIte, Nat.reduceLT, Nat.reduceMul, Nat.reduceSub, reduceCtorEq, frzLoc, rowCells, vAppM, beq_iff_eq, bne_iff_ne, bne_self_eq_false, beq_self_eq_true, beq_true, beq_false, I, B, w, cx_len, cx_app, cx_own0, cx_own, cx_setOwn0, cx_setOwn, cx_take, cx_takeN, Nat.add_right_cancel_iff, Nat.lt_irrefl, cx_nlt, Nat.not_lt_zero, cx_get' h, cx_setId' h, cx_er h, cx_all0 h, cx_all h, CtxOk.lt h, hgl, hb2, hb3, hid2])) (vf37L0_go ?_)
        (repeat (first
    | refine RX_seq ?_
    | refine RX_block ?_
    | ((first | refine RX_reg ?_ | refine RX_cond' ?_ | refine RX_draw0 ?_ | refine RX_draw rfl ?_ | refine RX_skip ?_ | refine RX_exit ?_ | refine RX_ret ?_); try (simp only [go_sem, Int.reduceToNat, Nat.reducePow, Int.reduceEq, Int.reduceNe, Int.reduceLT, Int.reduceLE, Nat.reduceAdd, Nat.reduceLeDiff, ↓reduceIte, Nat.reduceLT, Nat.reduceMul, Nat.reduceSub, reduceCtorEq, frzLoc, rowCells, vAppM, beq_iff_eq, bne_iff_ne, bne_self_eq_false, beq_self_eq_true, beq_true, beq_false, I, B, w, vf37_res, vf37_keep, cx_len, cx_app, cx_own0, cx_own, cx_setOwn0, cx_setOwn, cx_take, cx_takeN, Nat.add_right_cancel_iff, Nat.lt_irrefl, cx_nlt, Nat.not_lt_zero, cx_get' h, cx_setId' h, cx_er h, cx_all0 h, cx_all h, CtxOk.lt h, gt_iff_lt, ge_iff_le, ibeq, hg1, hgc, hgl, c14, c4, c20, c9, c2, c3, c18, c68, c22, m4, m20, m18, ms, hwm, hge, h64g, h64s, h64x, hdr, a1, a2, hid, hb2, hb3, hid2, e75, e70, e77, e85n, e85r, List.length_map, hx]))))
        refine hp _ _ _ _ (.inr ⟨_, ?_, rfl⟩) ⟨rfl, ?_, rfl, rfl, rfl, rfl⟩ (by simp)
        · first | (rw [List.map_append, hr0]; simp [pT_row, nT_row, gNm_row, nmT_row, bxr, Tm.row_mk, gold, silver, exx]; done) | (rw [List.map_append]; simp [pT_row, nT_row, gNm_row, nmT_row, bxr, Tm.row_mk, gold, silver, exx]; done)
        · (simp only [cx_takeN, List.take_succ_cons, List.take_zero] <;> try rfl)
    · have hp := hpa
      simp only [paF, hx, Int.reduceEq, or_false, false_or, or_true, true_or, if_true, if_false, or_self] at hp
      clear hpa
      rcases hv with ⟨rfl, rfl, hr0⟩ | ⟨g, rfl, rfl⟩ <;>
      · refine RL_at hat (by (simp only [go_sem, Int.reduceToNat, Nat.reducePow, Int.reduceEq, Int.reduceNe, Int.reduceLT, Int.reduceLE, Nat.reduceAdd, Nat.reduceLeDiff, ↓reduceIte, Nat.reduceLT, Nat.reduceMul, Nat.reduceSub, reduceCtorEq, frzLoc, rowCells, vAppM, beq_iff_eq, bne_iff_ne, bne_self_eq_false, beq_self_eq_true, beq_true, beq_false, I, B, w, cx_len, cx_app, cx_own0, cx_own, cx_setOwn0, cx_setOwn, cx_take, cx_takeN, Nat.add_right_cancel_iff, Nat.lt_irrefl, cx_nlt, Nat.not_lt_zero, cx_get' h, cx_setId' h, cx_er h, cx_all0 h, cx_all h, CtxOk.lt h, hb2, hb3, hid2])) (by (simp only [go_sem, Int.reduceToNat, Nat.reducePow, Int.reduceEq, Int.reduceNe, Int.reduceLT, Int.reduceLE, Nat.reduceAdd, Nat.reduceLeDiff, ↓reduceIte, Nat.reduceLT, Nat.reduceMul, Nat.reduceSub, reduceCtorEq, frzLoc, rowCells, vAppM, beq_iff_eq, bne_iff_ne, bne_self_eq_false, beq_self_eq_true, beq_true, beq_false, I, B, w, cx_len, cx_app, cx_own0, cx_own, cx_setOwn0, cx_setOwn, cx_take, cx_takeN, Nat.add_right_cancel_iff, Nat.lt_irrefl, cx_nlt, Nat.not_lt_zero, cx_get' h, cx_setId' h, cx_er h, cx_all0 h, cx_all h, CtxOk.lt h, hgl, hb2, hb3, hid2])) (vf37L0_go ?_)
        (repeat (first
    | refine RX_seq ?_
    | refine RX_block ?_
    | ((first | refine RX_reg ?_ | refine RX_cond' ?_ | refine RX_draw0 ?_ | refine RX_draw rfl ?_ | refine RX_skip ?_ | refine RX_exit ?_ | refine RX_ret ?_); try (simp only [go_sem, Int.reduceToNat, Nat.reducePow, Int.reduceEq, Int.reduceNe, Int.reduceLT, Int.reduceLE, Nat.reduceAdd, Nat.reduceLeDiff, ↓reduceIte, Nat.reduceLT, Nat.reduceMul, Nat.reduceSub, reduceCtorEq, frzLoc, rowCells, vAppM, beq_iff_eq, bne_iff_ne, bne_self_eq_false, beq_self_eq_true, beq_true, beq_false, I, B, w, vf37_res, vf37_keep, cx_len, cx_app, cx_own0, cx_own, cx_setOwn0, cx_setOwn, cx_take, cx_takeN, Nat.add_right_cancel_iff, Nat.lt_irrefl, cx_nlt, Nat.not_lt_zero, cx_get' h, cx_setId' h, cx_er h, cx_all0 h, cx_all h, CtxOk.lt h, gt_iff_lt, ge_iff_le, ibeq, hg1, hgc, hgl, c14, c4, c20, c9, c2, c3, c18, c68, c22, m4, m20, m18, ms, hwm, hge, h64g, h64s, h64x, hdr, a1, a2, hid, hb2, hb3, hid2, e75, e70, e77, e85n, e85r, List.length_map, hx]))))
        refine hp _ _ _ _ (.inr ⟨_, ?_, rfl⟩) ⟨rfl, ?_, rfl, rfl, rfl, rfl⟩ (by simp)
        · first | (rw [List.map_append, hr0]; simp [pT_row, nT_row, gNm_row, nmT_row, bxr, Tm.row_mk, gold, silver, exx]; done) | (rw [List.map_append]; simp [pT_row, nT_row, gNm_row, nmT_row, bxr, Tm.row_mk, gold, silver, exx]; done)
        · (simp only [cx_takeN, List.take_succ_cons, List.take_zero] <;> try rfl)
    · have hp := hpa
      simp only [paF, hx, Int.reduceEq, or_false, false_or, or_true, true_or, if_true, if_false, or_self] at hp
      clear hpa
      rcases hv with ⟨rfl, rfl, hr0⟩ | ⟨g, rfl, rfl⟩ <;>
      · refine RL_at hat (by (simp only [go_sem, Int.reduceToNat, Nat.reducePow, Int.reduceEq, Int.reduceNe, Int.reduceLT, Int.reduceLE, Nat.reduceAdd, Nat.reduceLeDiff, ↓reduceIte, Nat.reduceLT, Nat.reduceMul, Nat.reduceSub, reduceCtorEq, frzLoc, rowCells, vAppM, beq_iff_eq, bne_iff_ne, bne_self_eq_false, beq_self_eq_true, beq_true, beq_false, I, B, w, cx_len, cx_app, cx_own0, cx_own, cx_setOwn0, cx_setOwn, cx_take, cx_takeN, Nat.add_right_cancel_iff, Nat.lt_irrefl, cx_nlt, Nat.not_lt_zero, cx_get' h, cx_setId' h, cx_er h, cx_all0 h, cx_all h, CtxOk.lt h, hb2, hb3, hid2])) (by (simp only [go_sem, Int.reduceToNat, Nat.reducePow, Int.reduceEq, Int.reduceNe, Int.reduceLT, Int.reduceLE, Nat.reduceAdd, Nat.reduceLeDiff, ↓reduceIte, Nat.reduceLT, Nat.reduceMul, Nat.reduceSub, reduceCtorEq, frzLoc, rowCells, vAppM, beq_iff_eq, bne_iff_ne, bne_self_eq_false, beq_self_eq_true, beq_true, beq_false, I, B, w, cx_len, cx_app, cx_own0, cx_own, cx_setOwn0, cx_setOwn, cx_take, cx_takeN, Nat.add_right_cancel_iff, Nat.lt_irrefl, cx_nlt, Nat.not_lt_zero, cx_get' h, cx_setId' h, cx_er h, cx_all0 h, cx_all h, CtxOk.lt h, hgl, hb2, hb3, hid2])) (vf37L0_go ?_)
        (repeat (first
    | refine RX_seq ?_
    | refine RX_block ?_
    | ((first | refine RX_reg ?_ | refine RX_cond' ?_ | refine RX_draw0 ?_ | refine RX_draw rfl ?_ | refine RX_skip ?_ | refine RX_exit ?_ | refine RX_ret ?_); try (simp only [go_sem, Int.reduceToNat, Nat.reducePow, Int.reduceEq, Int.reduceNe, Int.reduceLT, Int.reduceLE, Nat.reduceAdd, Nat.reduceLeDiff, ↓reduceIte, Nat.reduceLT, Nat.reduceMul, Nat.reduceSub, reduceCtorEq, frzLoc, rowCells, vAppM, beq_iff_eq, bne_iff_ne, bne_self_eq_false, beq_self_eq_true, beq_true, beq_false, I, B, w, vf37_res, vf37_keep, cx_len, cx_app, cx_own0, cx_own, cx_setOwn0, cx_setOwn, cx_take, cx_takeN, Nat.add_right_cancel_iff, Nat.lt_irrefl, cx_nlt, Nat.not_lt_zero, cx_get' h, cx_setId' h, cx_er h, cx_all0 h, cx_all h, CtxOk.lt h, gt_iff_lt, ge_iff_le, ibeq, hg1, hgc, hgl, c14, c4, c20, c9, c2, c3, c18, c68, c22, m4, m20, m18, ms, hwm, hge, h64g, h64s, h64x, hdr, a1, a2, hid, hb2, hb3, hid2, e75, e70, e77, e85n, e85r, List.length_map, hx]))))
        refine hp _ _ _ _ (.inr ⟨_, ?_, rfl⟩) ⟨rfl, ?_, rfl, rfl, rfl, rfl⟩ (by simp)
        · first | (rw [List.map_append, hr0]; simp [pT_row, nT_row, gNm_row, nmT_row, bxr, Tm.row_mk, gold, silver, exx]; done) | (rw [List.map_append]; simp [pT_row, nT_row, gNm_row, nmT_row, bxr, Tm.row_mk, gold, silver, exx]; done)
        · (simp only [cx_takeN, List.take_succ_cons, List.take_zero] <;> try rfl)
    · have hp := hpa
      simp only [paF, hx, Int.reduceEq, or_false, false_or, or_true, true_or, if_true, if_false, or_self] at hp
      clear hpa
      rcases hv with ⟨rfl, rfl, hr0⟩ | ⟨g, rfl, rfl⟩ <;>
      · refine RL_at hat (by (simp only [go_sem, Int.reduceToNat, Nat.reducePow, Int.reduceEq, Int.reduceNe, Int.reduceLT, Int.reduceLE, Nat.reduceAdd, Nat.reduceLeDiff, ↓reduceIte, Nat.reduceLT, Nat.reduceMul, Nat.reduceSub, reduceCtorEq, frzLoc, rowCells, vAppM, beq_iff_eq, bne_iff_ne, bne_self_eq_false, beq_self_eq_true, beq_true, beq_false, I, B, w, cx_len, cx_app, cx_own0, cx_own, cx_setOwn0, cx_setOwn, cx_take, cx_takeN, Nat.add_right_cancel_iff, Nat.lt_irrefl, cx_nlt, Nat.not_lt_zero, cx_get' h, cx_setId' h, cx_er h, cx_all0 h, cx_all h, CtxOk.lt h, hb2, hb3, hid2])) (by (simp only [go_sem, Int.reduceToNat, Nat.reducePow, Int.reduceEq, Int.reduceNe, Int.reduceLT, Int.reduceLE, Nat.reduceAdd, Nat.reduceLeDiff, ↓reduceIte, Nat.reduceLT, Nat.reduceMul, Nat.reduceSub, reduceCtorEq, frzLoc, rowCells, vAppM, beq_iff_eq, bne_iff_ne, bne_self_eq_false, beq_self_eq_true, beq_true, beq_false, I, B, w, cx_len, cx_app, cx_own0, cx_own, cx_setOwn0, cx_setOwn, cx_take, cx_takeN, Nat.add_right_cancel_iff, Nat.lt_irrefl, cx_nlt, Nat.not_lt_zero, cx_get' h, cx_setId' h, cx_er h, cx_all0 h, cx_all h, CtxOk.lt h, hgl, hb2, hb3, hid2])) (vf37L0_go ?_)
        (repeat (first
    | refine RX_seq ?_
    | refine RX_block ?_
    | ((first | refine RX_reg ?_ | refine RX_cond' ?_ | refine RX_draw0 ?_ | refine RX_draw rfl ?_ | refine RX_skip ?_ | refine RX_exit ?_ | refine RX_ret ?_); try (simp only [go_sem, Int.reduceToNat, Nat.reducePow, Int.reduceEq, Int.reduceNe, Int.reduceLT, Int.reduceLE, Nat.reduceAdd, Nat.reduceLeDiff, ↓reduceIte, Nat.reduceLT, Nat.reduceMul, Nat.reduceSub, reduceCtorEq, frzLoc, rowCells, vAppM, beq_iff_eq, bne_iff_ne, bne_self_eq_false, beq_self_eq_true, beq_true, beq_false, I, B, w, vf37_res, vf37_keep, cx_len, cx_app, cx_own0, cx_own, cx_setOwn0, cx_setOwn, cx_take, cx_takeN, Nat.add_right_cancel_iff, Nat.lt_irrefl, cx_nlt, Nat.not_lt_zero, cx_get' h, cx_setId' h, cx_er h, cx_all0 h, cx_all h, CtxOk.lt h, gt_iff_lt, ge_iff_le, ibeq, hg1, hgc, hgl, c14, c4, c20, c9, c2, c3, c18, c68, c22, m4, m20, m18, ms, hwm, hge, h64g, h64s, h64x, hdr, a1, a2, hid, hb2, hb3, hid2, e75, e70, e77, e85n, e85r, List.length_map, hx]))))
        refine hp _ _ _ _ (.inr ⟨_, ?_, rfl⟩) ⟨rfl, ?_, rfl, rfl, rfl, rfl⟩ (by simp)
        · first | (rw [List.map_append, hr0]; simp [pT_row, nT_row, gNm_row, nmT_row, bxr, Tm.row_mk, gold, silver, exx]; done) | (rw [List.map_append]; simp [pT_row, nT_row, gNm_row, nmT_row, bxr, Tm.row_mk, gold, silver, exx]; done)
        · (simp only [cx_takeN, List.take_succ_cons, List.take_zero] <;> try rfl)
    · have hp := hpa
      simp only [paF, hx, Int.reduceEq, or_false, false_or, or_true, true_or, if_true, if_false, or_self] at hp
      clear hpa
      rcases hv with ⟨rfl, rfl, hr0⟩ | ⟨g, rfl, rfl⟩ <;>
      · refine RL_at hat (by (simp only [go_sem, Int.reduceToNat, Nat.reducePow, Int.reduceEq, Int.reduceNe, Int.reduceLT, Int.reduceLE, Nat.reduceAdd, Nat.reduceLeDiff, ↓reduceIte, Nat.reduceLT, Nat.reduceMul, Nat.reduceSub, reduceCtorEq, frzLoc, rowCells, vAppM, beq_iff_eq, bne_iff_ne, bne_self_eq_false, beq_self_eq_true, beq_true, beq_false, I, B, w, cx_len, cx_app, cx_own0, cx_own, cx_setOwn0, cx_setOwn, cx_take, cx_takeN, Nat.add_right_cancel_iff, Nat.lt_irrefl, cx_nlt, Nat.not_lt_zero, cx_get' h, cx_setId' h, cx_er h, cx_all0 h, cx_all h, CtxOk.lt h, hb2, hb3, hid2])) (by (simp only [go_sem, Int.reduceToNat, Nat.reducePow, Int.reduceEq, Int.reduceNe, Int.reduceLT, Int.reduceLE, Nat.reduceAdd, Nat.reduceLeDiff, ↓reduceIte, Nat.reduceLT, Nat.reduceMul, Nat.reduceSub, reduceCtorEq, frzLoc, rowCells, vAppM, beq_iff_eq, bne_iff_ne, bne_self_eq_false, beq_self_eq_true, beq_true, beq_false, I, B, w, cx_len, cx_app, cx_own0, cx_own, cx_setOwn0, cx_setOwn, cx_take, cx_takeN, Nat.add_right_cancel_iff, Nat.lt_irrefl, cx_nlt, Nat.not_lt_zero, cx_get' h, cx_setId' h, cx_er h, cx_all0 h, cx_all h, CtxOk.lt h, hgl, hb2, hb3, hid2])) (vf37L0_go ?_)
        (repeat (first
    | refine RX_seq ?_
    | refine RX_block ?_
    | ((first | refine RX_reg ?_ | refine RX_cond' ?_ | refine RX_draw0 ?_ | refine RX_draw rfl ?_ | refine RX_skip ?_ | refine RX_exit ?_ | refine RX_ret ?_); try (simp only [go_sem, Int.reduceToNat, Nat.reducePow, Int.reduceEq, Int.reduceNe, Int.reduceLT, Int.reduceLE, Nat.reduceAdd, Nat.reduceLeDiff, ↓reduceIte, Nat.reduceLT, Nat.reduceMul, Nat.reduceSub, reduceCtorEq, frzLoc, rowCells, vAppM, beq_iff_eq, bne_iff_ne, bne_self_eq_false, beq_self_eq_true, beq_true, beq_false, I, B, w, vf37_res, vf37_keep, cx_len, cx_app, cx_own0, cx_own, cx_setOwn0, cx_setOwn, cx_take, cx_takeN, Nat.add_right_cancel_iff, Nat.lt_irrefl, cx_nlt, Nat.not_lt_zero, cx_get' h, cx_setId' h, cx_er h, cx_all0 h, cx_all h, CtxOk.lt h, gt_iff_lt, ge_iff_le, ibeq, hg1, hgc, hgl, c14, c4, c20, c9, c2, c3, c18, c68, c22, m4, m20, m18, ms, hwm, hge, h64g, h64s, h64x, hdr, a1, a2, hid, hb2, hb3, hid2, e75, e70, e77, e85n, e85r, List.length_map, hx]))))
        refine hp _ _ _ _ (.inr ⟨_, ?_, rfl⟩) ⟨rfl, ?_, rfl, rfl, rfl, rfl⟩ (by simp)
        · first | (rw [List.map_append, hr0]; simp [pT_row, nT_row, gNm_row, nmT_row, bxr, Tm.row_mk, gold, silver, exx]; done) | (rw [List.map_append]; simp [pT_row, nT_row, gNm_row, nmT_row, bxr, Tm.row_mk, gold, silver, exx]; done)
        · (simp only [cx_takeN, List.take_succ_cons, List.take_zero] <;> try rfl)
    · have hp := hpa
      simp only [paF, hx, Int.reduceEq, or_false, false_or, or_true, true_or, if_true, if_false, or_self] at hp
      clear hpa
      rcases hv with ⟨rfl, rfl, hr0⟩ | ⟨g, rfl, rfl⟩ <;>
      · refine RL_at hat (by (simp only [go_sem, Int.reduceToNat, Nat.reducePow, Int.reduceEq, Int.reduceNe, Int.reduceLT, Int.reduceLE, Nat.reduceAdd, Nat.reduceLeDiff, ↓reduceIte, Nat.reduceLT, Nat.reduceMul, Nat.reduceSub, reduceCtorEq, frzLoc, rowCells, vAppM, beq_iff_eq, bne_iff_ne, bne_self_eq_false, beq_self_eq_true, beq_true, beq_false, I, B, w, cx_len, cx_app, cx_own0, cx_own, cx_setOwn0, cx_setOwn, cx_take, cx_takeN, Nat.add_right_cancel_iff, Nat.lt_irrefl, cx_nlt, Nat.not_lt_zero, cx_get' h, cx_setId' h, cx_er h, cx_all0 h, cx_all h, CtxOk.lt h, hb2, hb3, hid2])) (by (simp only [go_sem, Int.reduceToNat, Nat.reducePow, Int.reduceEq, Int.reduceNe, Int.reduceLT, Int.reduceLE, Nat.reduceAdd, Nat.reduceLeDiff, ↓reduceIte, Nat.reduceLT, Nat.reduceMul, Nat.reduceSub, reduceCtorEq, frzLoc, rowCells, vAppM, beq_iff_eq, bne_iff_ne, bne_self_eq_false, beq_self_eq_true, beq_true, beq_false, I, B, w, cx_len, cx_app, cx_own0, cx_own, cx_setOwn0, cx_setOwn, cx_take, cx_takeN, Nat.add_right_cancel_iff, Nat.lt_irrefl, cx_nlt, Nat.not_lt_zero, cx_get' h, cx_setId' h, cx_er h, cx_all0 h, cx_all h, CtxOk.lt h, hgl, hb2, hb3, hid2])) (vf37L0_go ?_)
        (repeat (first
    | refine RX_seq ?_
    | refine RX_block ?_
    | ((first | refine RX_reg ?_ | refine RX_cond' ?_ | refine RX_draw0 ?_ | refine RX_draw rfl ?_ | refine RX_skip ?_ | refine RX_exit ?_ | refine RX_ret ?_); try (simp only [go_sem, Int.reduceToNat, Nat.reducePow, Int.reduceEq, Int.reduceNe, Int.reduceLT, Int.reduceLE, Nat.reduceAdd, Nat.reduceLeDiff, ↓reduceIte, Nat.reduceLT, Nat.reduceMul, Nat.reduceSub, reduceCtorEq, frzLoc, rowCells, vAppM, beq_iff_eq, bne_iff_ne, bne_self_eq_false, beq_self_eq_true, beq_true, beq_false, I, B, w, vf37_res, vf37_keep, cx_len, cx_app, cx_own0, cx_own, cx_setOwn0, cx_setOwn, cx_take, cx_takeN, Nat.add_right_cancel_iff, Nat.lt_irrefl, cx_nlt, Nat.not_lt_zero, cx_get' h, cx_setId' h, cx_er h, cx_all0 h, cx_all h, CtxOk.lt h, gt_iff_lt, ge_iff_le, ibeq, hg1, hgc, hgl, c14, c4, c20, c9, c2, c3, c18, c68, c22, m4, m20, m18, ms, hwm, hge, h64g, h64s, h64x, hdr, a1, a2, hid, hb2, hb3, hid2, e75, e70, e77, e85n, e85r, List.length_map, hx]))))
        refine hp _ _ _ _ (.inr ⟨_, ?_, rfl⟩) ⟨rfl, ?_, rfl, rfl, rfl, rfl⟩ (by simp)
        · first | (rw [List.map_append, hr0]; simp [pT_row, nT_row, gNm_row, nmT_row, bxr, Tm.row_mk, gold, silver, exx]; done) | (rw [List.map_append]; simp [pT_row, nT_row, gNm_row, nmT_row, bxr, Tm.row_mk, gold, silver, exx]; done)
        · (simp only [cx_takeN, List.take_succ_cons, List.take_zero] <;> try rfl)
    · have hp := hpa
      simp only [paF, hx, Int.reduceEq, or_false, false_or, or_true, true_or, if_true, if_false, or_self] at hp
      clear hpa
      rcases hv with ⟨rfl, rfl, hr0⟩ | ⟨g, rfl, rfl⟩ <;>
      · refine RL_at hat (by (simp only [go_sem, Int.reduceToNat, Nat.reducePow, Int.reduceEq, Int.reduceNe, Int.reduceLT, Int.reduceLE, Nat.reduceAdd, Nat.reduceLeDiff, ↓reduceIte, Nat.reduceLT, Nat.reduceMul, Nat.reduceSub, reduceCtorEq, frzLoc, rowCells, vAppM, beq_iff_eq, bne_iff_ne, bne_self_eq_false, beq_self_eq_true, beq_true, beq_false, I, B, w, cx_len, cx_app, cx_own0, cx_own, cx_setOwn0, cx_setOwn, cx_take, cx_takeN, Nat.add_right_cancel_iff, Nat.lt_irrefl, cx_nlt, Nat.not_lt_zero, cx_get' h, cx_setId' h, cx_er h, cx_all0 h, cx_all h, CtxOk.lt h, hb2, hb3, hid2])) (by (simp only [go_sem, Int.reduceToNat, Nat.reducePow, Int.reduceEq, Int.reduceNe, Int.reduceLT, Int.reduceLE, Nat.reduceAdd, Nat.reduceLeDiff, ↓reduceIte, Nat.reduceLT, Nat.reduceMul, Nat.reduceSub, reduceCtorEq, frzLoc, rowCells, vAppM, beq_iff_eq, bne_iff_ne, bne_self_eq_false, beq_self_eq_true, beq_true, beq_false, I, B, w, cx_len, cx_app, cx_own0, cx_own, cx_setOwn0, cx_setOwn, cx_take, cx_takeN, Nat.add_right_cancel_iff, Nat.lt_irrefl, cx_nlt, Nat.not_lt_zero, cx_get' h, cx_setId' h, cx_er h, cx_all0 h, cx_all h, CtxOk.lt h, hgl, hb2, hb3, hid2])) (vf37L0_go ?_)
        (repeat (first
    | refine RX_seq ?_
    | refine RX_block ?_
    | ((first | refine RX_reg ?_ | refine RX_cond' ?_ | refine RX_draw0 ?_ | refine RX_draw rfl ?_ | refine RX_skip ?_ | refine RX_exit ?_ | refine RX_ret ?_); try (simp only [go_sem, Int.reduceToNat, Nat.reducePow, Int.reduceEq, Int.reduceNe, Int.reduceLT, Int.reduceLE, Nat.reduceAdd, Nat.reduceLeDiff, ↓reduceIte, Nat.reduceLT, Nat.reduceMul, Nat.reduceSub, reduceCtorEq, frzLoc, rowCells, vAppM, beq_iff_eq, bne_iff_ne, bne_self_eq_false, beq_self_eq_true, beq_true, beq_false, I, B, w, vf37_res, vf37_keep, cx_len, cx_app, cx_own0, cx_own, cx_setOwn0, cx_setOwn, cx_take, cx_takeN, Nat.add_right_cancel_iff, Nat.lt_irrefl, cx_nlt, Nat.not_lt_zero, cx_get' h, cx_setId' h, cx_er h, cx_all0 h, cx_all h, CtxOk.lt h, gt_iff_lt, ge_iff_le, ibeq, hg1, hgc, hgl, c14, c4, c20, c9, c2, c3, c18, c68, c22, m4, m20, m18, ms, hwm, hge, h64g, h64s, h64x, hdr, a1, a2, hid, hb2, hb3, hid2, e75, e70, e77, e85n, e85r, List.length_map, hx]))))
        refine hp _ _ _ _ (.inr ⟨_, ?_, rfl⟩) ⟨rfl, ?_, rfl, rfl, rfl, rfl⟩ (by simp)
        · first | (rw [List.map_append, hr0]; simp [pT_row, nT_row, gNm_row, nmT_row, bxr, Tm.row_mk, gold, silver, exx]; done) | (rw [List.map_append]; simp [pT_row, nT_row, gNm_row, nmT_row, bxr, Tm.row_mk, gold, silver, exx]; done)
        · (simp only [cx_takeN, List.take_succ_cons, List.take_zero] <;> try rfl)
    · have hp := hpa
      simp only [paF, hx, Int.reduceEq, or_false, false_or, or_true, true_or, if_true, if_false, or_self] at hp
      clear hpa
      rcases hx2 with hx2 | hx2
      all_goals
        simp only [paNm, hx2, Int.reduceEq, if_true, if_false] at hp
        rcases hv with ⟨rfl, rfl, hr0⟩ | ⟨g, rfl, rfl⟩ <;>
        · refine RL_at hat (by (simp only [go_sem, Int.reduceToNat, Nat.reducePow, Int.reduceEq, Int.reduceNe, Int.reduceLT, Int.reduceLE, Nat.reduceAdd, Nat.reduceLeDiff, ↓reduceIte, Nat.reduceLT, Nat.reduceMul, Nat.reduceSub, reduceCtorEq, frzLoc, rowCells, vAppM, beq_iff_eq, bne_iff_ne, bne_self_eq_false, beq_self_eq_true, beq_true, beq_false, I, B, w, cx_len, cx_app, cx_own0, cx_own, cx_setOwn0, cx_setOwn, cx_take, cx_takeN, Nat.add_right_cancel_iff, Nat.lt_irrefl, cx_nlt, Nat.not_lt_zero, cx_get' h, cx_setId' h, cx_er h, cx_all0 h, cx_all h, CtxOk.lt h, hb2, hb3, hid2])) (by (simp only [go_sem, Int.reduceToNat, Nat.reducePow, Int.reduceEq, Int.reduceNe, Int.reduceLT, Int.reduceLE, Nat.reduceAdd, Nat.reduceLeDiff, ↓reduceIte, Nat.reduceLT, Nat.reduceMul, Nat.reduceSub, reduceCtorEq, frzLoc, rowCells, vAppM, beq_iff_eq, bne_iff_ne, bne_self_eq_false, beq_self_eq_true, beq_true, beq_false, I, B, w, cx_len, cx_app, cx_own0, cx_own, cx_setOwn0, cx_setOwn, cx_take, cx_takeN, Nat.add_right_cancel_iff, Nat.lt_irrefl, cx_nlt, Nat.not_lt_zero, cx_get' h, cx_setId' h, cx_er h, cx_all0 h, cx_all h, CtxOk.lt h, hgl, hb2, hb3, hid2])) (vf37L0_go ?_)
          (repeat (first
    | refine RX_seq ?_
    | refine RX_block ?_
    | ((first | refine RX_reg ?_ | refine RX_cond' ?_ | refine RX_draw0 ?_ | refine RX_draw rfl ?_ | refine RX_skip ?_ | refine RX_exit ?_ | refine RX_ret ?_); try (simp only [go_sem, Int.reduceToNat, Nat.reducePow, Int.reduceEq, Int.reduceNe, Int.reduceLT, Int.reduceLE, Nat.reduceAdd, Nat.reduceLeDiff, ↓reduceIte, Nat.reduceLT, Nat.reduceMul, Nat.reduceSub, reduceCtorEq, frzLoc, rowCells, vAppM, beq_iff_eq, bne_iff_ne, bne_self_eq_false, beq_self_eq_true, beq_true, beq_false, I, B, w, vf37_res, vf37_keep, cx_len, cx_app, cx_own0, cx_own, cx_setOwn0, cx_setOwn, cx_take, cx_takeN, Nat.add_right_cancel_iff, Nat.lt_irrefl, cx_nlt, Nat.not_lt_zero, cx_get' h, cx_setId' h, cx_er h, cx_all0 h, cx_all h, CtxOk.lt h, gt_iff_lt, ge_iff_le, ibeq, hg1, hgc, hgl, c14, c4, c20, c9, c2, c3, c18, c68, c22, m4, m20, m18, ms, hwm, hge, h64g, h64s, h64x, hdr, a1, a2, hid, hb2, hb3, hid2, e75, e70, e77, e85n, e85r, List.length_map, hx, hx2]))))
          refine hp _ _ _ _ (.inr ⟨_, ?_, rfl⟩) ⟨rfl, ?_, rfl, rfl, rfl, rfl⟩ (by simp)
          · first | (rw [List.map_append, hr0]; simp [pT_row, nT_row, gNm_row, nmT_row, bxr, Tm.row_mk, gold, silver, exx]; done) | (rw [List.map_append]; simp [pT_row, nT_row, gNm_row, nmT_row, bxr, Tm.row_mk, gold, silver, exx]; done)
          · (simp only [cx_takeN, List.take_succ_cons, List.take_zero] <;> try rfl)
    · have hp := hpa
      simp only [paF, hx, Int.reduceEq, or_false, false_or, or_true, true_or, if_true, if_false, or_self] at hp
      clear hpa
      rcases hv with ⟨rfl, rfl, hr0⟩ | ⟨g, rfl, rfl⟩ <;>
      · refine RL_at hat (by (simp only [go_sem, Int.reduceToNat, Nat.reducePow, Int.reduceEq, Int.reduceNe, Int.reduceLT, Int.reduceLE, Nat.reduceAdd, Nat.reduceLeDiff, ↓reduceIte, Nat.reduceLT, Nat.reduceMul, Nat.reduceSub, reduceCtorEq, frzLoc, rowCells, vAppM, beq_iff_eq, bne_iff_ne, bne_self_eq_false, beq_self_eq_true, beq_true, beq_false, I, B, w, cx_len, cx_app, cx_own0, cx_own, cx_setOwn0, cx_setOwn, cx_take, cx_takeN, Nat.add_right_cancel_iff, Nat.lt_irrefl, cx_nlt, Nat.not_lt_zero, cx_get' h, cx_setId' h, cx_er h, cx_all0 h, cx_all h, CtxOk.lt h, hb2, hb3, hid2])) (by (simp only [go_sem, Int.reduceToNat, Nat.reducePow, Int.reduceEq, Int.reduceNe, Int.reduceLT, Int.reduceLE, Nat.reduceAdd, Nat.reduceLeDiff, ↓reduceIte, Nat.reduceLT, Nat.reduceMul, Nat.reduceSub, reduceCtorEq, frzLoc, rowCells, vAppM, beq_iff_eq, bne_iff_ne, bne_self_eq_false, beq_self_eq_true, beq_true, beq_false, I, B, w, cx_len, cx_app, cx_own0, cx_own, cx_setOwn0, cx_setOwn, cx_take, cx_takeN, Nat.add_right_cancel_iff, Nat.lt_irrefl, cx_nlt, Nat.not_lt_zero, cx_get' h, cx_setId' h, cx_er h, cx_all0 h, cx_all h, CtxOk.lt h, hgl, hb2, hb3, hid2])) (vf37L0_go ?_)
        (repeat (first
    | refine RX_seq ?_
    | refine RX_block ?_
    | ((first | refine RX_reg ?_ | refine RX_cond' ?_ | refine RX_draw0 ?_ | refine RX_draw rfl ?_ | refine RX_skip ?_ | refine RX_exit ?_ | refine RX_ret ?_); try (simp only [go_sem, Int.reduceToNat, Nat.reducePow, Int.reduceEq, Int.reduceNe, Int.reduceLT, Int.reduceLE, Nat.reduceAdd, Nat.reduceLeDiff, ↓reduceIte, Nat.reduceLT, Nat.reduceMul, Nat.reduceSub, reduceCtorEq, frzLoc, rowCells, vAppM, beq_iff_eq, bne_iff_ne, bne_self_eq_false, beq_self_eq_true, beq_true, beq_false, I, B, w, vf37_res, vf37_keep, cx_len, cx_app, cx_own0, cx_own, cx_setOwn0, cx_setOwn, cx_take, cx_takeN, Nat.add_right_cancel_iff, Nat.lt_irrefl, cx_nlt, Nat.not_lt_zero, cx_get' h, cx_setId' h, cx_er h, cx_all0 h, cx_all h, CtxOk.lt h, gt_iff_lt, ge_iff_le, ibeq, hg1, hgc, hgl, c14, c4, c20, c9, c2, c3, c18, c68, c22, m4, m20, m18, ms, hwm, hge, h64g, h64s, h64x, hdr, a1, a2, hid, hb2, hb3, hid2, e75, e70, e77, e85n, e85r, List.length_map, hx]))))
        refine hp _ _ _ _ (.inr ⟨_, ?_, rfl⟩) ⟨rfl, ?_, rfl, rfl, rfl, rfl⟩ (by simp)
        · first | (rw [List.map_append, hr0]; simp [pT_row, nT_row, gNm_row, nmT_row, bxr, Tm.row_mk, gold, silver, exx]; done) | (rw [List.map_append]; simp [pT_row, nT_row, gNm_row, nmT_row, bxr, Tm.row_mk, gold, silver, exx]; done)
        · (simp only [cx_takeN, List.take_succ_cons, List.take_zero] <;> try rfl)
    · have hp := hpa
      simp only [paF, hx, Int.reduceEq, or_false, false_or, or_true, true_or, if_true, if_false, or_self] at hp
      clear hpa
      rcases hx3 with hx3 | hx3 | hx3
      all_goals
        simp only [paNm, hx3, Int.reduceEq, if_true, if_false] at hp
        rcases hv with ⟨rfl, rfl, hr0⟩ | ⟨g, rfl, rfl⟩ <;>
        · refine RL_at hat (by (simp only [go_sem, Int.reduceToNat, Nat.reducePow, Int.reduceEq, Int.reduceNe, Int.reduceLT, Int.reduceLE, Nat.reduceAdd, Nat.reduceLeDiff, ↓reduceIte, Nat.reduceLT, Nat.reduceMul, Nat.reduceSub, reduceCtorEq, frzLoc, rowCells, vAppM, beq_iff_eq, bne_iff_ne, bne_self_eq_false, beq_self_eq_true, beq_true, beq_false, I, B, w, cx_len, cx_app, cx_own0, cx_own, cx_setOwn0, cx_setOwn, cx_take, cx_takeN, Nat.add_right_cancel_iff, Nat.lt_irrefl, cx_nlt, Nat.not_lt_zero, cx_get' h, cx_setId' h, cx_er h, cx_all0 h, cx_all h, CtxOk.lt h, hb2, hb3, hid2])) (by (simp only [go_sem, Int.reduceToNat, Nat.reducePow, Int.reduceEq, Int.reduceNe, Int.reduceLT, Int.reduceLE, Nat.reduceAdd, Nat.reduceLeDiff, ↓reduceIte, Nat.reduceLT, Nat.reduceMul, Nat.reduceSub, reduceCtorEq, frzLoc, rowCells, vAppM, beq_iff_eq, bne_iff_ne, bne_self_eq_false, beq_self_eq_true, beq_true, beq_false, I, B, w, cx_len, cx_app, cx_own0, cx_own, cx_setOwn0, cx_setOwn, cx_take, cx_takeN, Nat.add_right_cancel_iff, Nat.lt_irrefl, cx_nlt, Nat.not_lt_zero, cx_get' h, cx_setId' h, cx_er h, cx_all0 h, cx_all h, CtxOk.lt h, hgl, hb2, hb3, hid2])) (vf37L0_go ?_)
          (repeat (first
    | refine RX_seq ?_
    | refine RX_block ?_
    | ((first | refine RX_reg ?_ | refine RX_cond' ?_ | refine RX_draw0 ?_ | refine RX_draw rfl ?_ | refine RX_skip ?_ | refine RX_exit ?_ | refine RX_ret ?_); try (simp only [go_sem, Int.reduceToNat, Nat.reducePow, Int.reduceEq, Int.reduceNe, Int.reduceLT, Int.reduceLE, Nat.reduceAdd, Nat.reduceLeDiff, ↓reduceIte, Nat.reduceLT, Nat.reduceMul, Nat.reduceSub, reduceCtorEq, frzLoc, rowCells, vAppM, beq_iff_eq, bne_iff_ne, bne_self_eq_false, beq_self_eq_true, beq_true, beq_false, I, B, w, vf37_res, vf37_keep, cx_len, cx_app, cx_own0, cx_own, cx_setOwn0, cx_setOwn, cx_take, cx_takeN, Nat.add_right_cancel_iff, Nat.lt_irrefl, cx_nlt, Nat.not_lt_zero, cx_get' h, cx_setId' h, cx_er h, cx_all0 h, cx_all h, CtxOk.lt h, gt_iff_lt, ge_iff_le, ibeq, hg1, hgc, hgl, c14, c4, c20, c9, c2, c3, c18, c68, c22, m4, m20, m18, ms, hwm, hge, h64g, h64s, h64x, hdr, a1, a2, hid, hb2, hb3, hid2, e75, e70, e77, e85n, e85r, List.length_map, hx, hx3]))))
          refine hp _ _ _ _ (.inr ⟨_, ?_, rfl⟩) ⟨rfl, ?_, rfl, rfl, rfl, rfl⟩ (by simp)
          · first | (rw [List.map_append, hr0]; simp [pT_row, nT_row, gNm_row, nmT_row, bxr, Tm.row_mk, gold, silver, exx]; done) | (rw [List.map_append]; simp [pT_row, nT_row, gNm_row, nmT_row, bxr, Tm.row_mk, gold, silver, exx]; done)
          · (simp only [cx_takeN, List.take_succ_cons, List.take_zero] <;> try rfl)
    · have hp := hpa
      simp only [paF, hx, Int.reduceEq, or_false, false_or, or_true, true_or, if_true, if_false, or_self] at hp
      clear hpa
      rcases hv with ⟨rfl, rfl, hr0⟩ | ⟨g, rfl, rfl⟩ <;>
      · refine RL_at hat (by (simp only [go_sem, Int.reduceToNat, Nat.reducePow, Int.reduceEq, Int.reduceNe, Int.reduceLT, Int.reduceLE, Nat.reduceAdd, Nat.reduceLeDiff, ↓reduceIte, Nat.reduceLT, Nat.reduceMul, Nat.reduceSub, reduceCtorEq, frzLoc, rowCells, vAppM, beq_iff_eq, bne_iff_ne, bne_self_eq_false, beq_self_eq_true, beq_true, beq_false, I, B, w, cx_len, cx_app, cx_own0, cx_own, cx_setOwn0, cx_setOwn, cx_take, cx_takeN, Nat.add_right_cancel_iff, Nat.lt_irrefl, cx_nlt, Nat.not_lt_zero, cx_get' h, cx_setId' h, cx_er h, cx_all0 h, cx_all h, CtxOk.lt h, hb2, hb3, hid2])) (by (simp only [go_sem, Int.reduceToNat, Nat.reducePow, Int.reduceEq, Int.reduceNe, Int.reduceLT, Int.reduceLE, Nat.reduceAdd, Nat.reduceLeDiff, ↓reduceIte, Nat.reduceLT, Nat.reduceMul, Nat.reduceSub, reduceCtorEq, frzLoc, rowCells, vAppM, beq_iff_eq, bne_iff_ne, bne_self_eq_false, beq_self_eq_true, beq_true, beq_false, I, B, w, cx_len, cx_app, cx_own0, cx_own, cx_setOwn0, cx_setOwn, cx_take, cx_takeN, Nat.add_right_cancel_iff, Nat.lt_irrefl, cx_nlt, Nat.not_lt_zero, cx_get' h, cx_setId' h, cx_er h, cx_all0 h, cx_all h, CtxOk.lt h, hgl, hb2, hb3, hid2])) (vf37L0_go ?_)
        (repeat (first
    | refine RX_seq ?_
    | refine RX_block ?_
    | ((first | refine RX_reg ?_ | refine RX_cond' ?_ | refine RX_draw0 ?_ | refine RX_draw rfl ?_ | refine RX_skip ?_ | refine RX_exit ?_ | refine RX_ret ?_); try (simp only [go_sem, Int.reduceToNat, Nat.reducePow, Int.reduceEq, Int.reduceNe, Int.reduceLT, Int.reduceLE, Nat.reduceAdd, Nat.reduceLeDiff, ↓reduceIte, Nat.reduceLT, Nat.reduceMul, Nat.reduceSub, reduceCtorEq, frzLoc, rowCells, vAppM, beq_iff_eq, bne_iff_ne, bne_self_eq_false, beq_self_eq_true, beq_true, beq_false, I, B, w, vf37_res, vf37_keep, cx_len, cx_app, cx_own0, cx_own, cx_setOwn0, cx_setOwn, cx_take, cx_takeN, Nat.add_right_cancel_iff, Nat.lt_irrefl, cx_nlt, Nat.not_lt_zero, cx_get' h, cx_setId' h, cx_er h, cx_all0 h, cx_all h, CtxOk.lt h, gt_iff_lt, ge_iff_le, ibeq, hg1, hgc, hgl, c14, c4, c20, c9, c2, c3, c18, c68, c22, m4, m20, m18, ms, hwm, hge, h64g, h64s, h64x, hdr, a1, a2, hid, hb2, hb3, hid2, e75, e70, e77, e85n, e85r, List.length_map, hx]))))
        refine hp _ _ _ _ (.inr ⟨_, ?_, rfl⟩) ⟨rfl, ?_, rfl, rfl, rfl, rfl⟩ (by simp)
        · first | (rw [List.map_append, hr0]; simp [pT_row, nT_row, gNm_row, nmT_row, bxr, Tm.row_mk, gold, silver, exx]; done) | (rw [List.map_append]; simp [pT_row, nT_row, gNm_row, nmT_row, bxr, Tm.row_mk, gold, silver, exx]; done)
        · (simp only [cx_takeN, List.take_succ_cons, List.take_zero] <;> try rfl)
end Go.Proofs.Ytahiikdkgbbmfaa

namespace Go.Proofs.Ytahiikdkgbbmfaa
open Go.VM
def Tm.zero : Tm := .mk 0 0 []
/-- is it a list that begins with a number? -/
def Tm.partB : Tm → Bool
  | .mk o _ (a :: _) => decide (o = 3) && decide (a.op = 1)
  | .mk _ _ [] => false
-- short lists everywhere
mutual
def Tm.tame : Tm → Prop
  | .mk _ _ args => args.length < 1000000 ∧ Tm.tames args
def Tm.tames : List Tm → Prop
  | [] => True
  | t :: ts => t.tame ∧ Tm.tames ts
end
mutual
theorem Tm.tame.small : ∀ {t : Tm}, t.tame → t.small
  | .mk _ _ args, h => ⟨by have := h.1; omega, Tm.tames.smalls h.2⟩
theorem Tm.tames.smalls : ∀ {ts : List Tm}, Tm.tames ts → Tm.smalls ts
  | [], _ => trivial
  | _ :: _, h => ⟨h.1.small, Tm.tames.smalls h.2⟩
end
theorem Tm.tames_mem : ∀ {ts : List Tm} {t : Tm}, Tm.tames ts → t ∈ ts → t.tame
  | t :: ts, u, h, hu => by
    rcases List.mem_cons.1 hu with rfl | hu
    · exact h.1
    · exact Tm.tames_mem h.2 hu
theorem Tm.tame.len {t : Tm} (h : t.tame) : t.args.length < 1000000 := by obtain ⟨o, v, l⟩ := t; exact h.1
theorem Tm.tame.mem {t u : Tm} (h : t.tame) (hu : u ∈ t.args) : u.tame := by obtain ⟨o, v, l⟩ := t; exact Tm.tames_mem h.2 hu
end Go.Proofs.Ytahiikdkgbbmfaa

namespace Go.Proofs.Ytahiikdkgbbmfaa
open Go.VM
theorem tames_of : ∀ {ts : List Tm}, (∀ t ∈ ts, t.tame) → Tm.tames ts
  | [], _ => trivial
  | t :: _, h => ⟨h t List.mem_cons_self, tames_of fun u hu => h u (List.mem_cons_of_mem _ hu)⟩
theorem tame_nT (n : Int) : (nT n).tame := ⟨by simp, trivial⟩
theorem tame_leaf (o v : Int) : (Tm.mk o v []).tame := ⟨by simp, trivial⟩
theorem tame_pT (n : Int) {ts : List Tm} (hl : ts.length < 100000) (h : ∀ t ∈ ts, t.tame) : (pT n ts).tame := ⟨by simp only [List.length_cons]; omega, tame_nT n, tames_of h⟩
theorem part_pT (n : Int) (ts : List Tm) : (pT n ts).partB = true := by simp [pT, Tm.partB, nT, Tm.op_mk]
theorem drL_tame {f : Nat → Tm × Nat} (hf : ∀ k, (f k).1.tame) : ∀ n k, Tm.tames (drL f n k).1
  | 0, _ => trivial
  | n + 1, k => ⟨hf k, drL_tame hf n _⟩
theorem drT_tame {l : List Int} (hB : Bytes l) : ∀ d k, (drT l d k).1.tame
  | 0, k => ⟨by simp, trivial⟩
  | d + 1, k => by
    have ih := drT_tame hB d
    rw [drT]
    split
    · exact ⟨by simp, trivial⟩
    split
    · refine ⟨?_, drL_tame ih _ _⟩
      rw [drL_len]
      have := nxV_range hB (k := nxA l k) (n := 4) (by decide)
      omega
    split
    · exact ⟨by simp, ⟨by simp, trivial⟩, trivial⟩
    split
    · exact ⟨by simp, ⟨by simp, trivial⟩, ⟨by simp, trivial⟩, trivial⟩
    split
    · exact ⟨by simp, ih _, trivial⟩
    split
    · exact ⟨by simp, ih _, ih _, trivial⟩
    · exact ⟨by simp, ih _, trivial⟩
theorem paNm_len (x : Int) : (paNm x).data.toList.length ≤ 6 := by
  unfold paNm
  split
  · decide
  · split <;> decide
/-- what the parts that are drawn have in common -/
def Good (ts : List Tm) : Prop := ∀ t ∈ ts, t.partB = true ∧ t.tame
theorem paF_good {l : List Int} (hB : Bytes l) (s : Int) (b : Bx) (k : Nat) : Good (paF l s b k).1 ∧ (paF l s b k).1.length ≤ 2 := by
  have one : ∀ n ts, ts.length < 100000 → (∀ t ∈ ts, Tm.tame t) → Good [pT n ts] := fun n ts h1 h2 t ht => by
    simp only [List.mem_cons, List.not_mem_nil, or_false] at ht; subst ht; exact ⟨part_pT n ts, tame_pT n h1 h2⟩
  have two : ∀ n ts m us, ts.length < 100000 → (∀ t ∈ ts, Tm.tame t) → us.length < 100000 → (∀ t ∈ us, Tm.tame t) → Good [pT n ts, pT m us] := fun n ts m us h1 h2 h3 h4 t ht => by
    simp only [List.mem_cons, List.not_mem_nil, or_false] at ht
    rcases ht with rfl | rfl
    · exact ⟨part_pT n ts, tame_pT n h1 h2⟩
    · exact ⟨part_pT m us, tame_pT m h3 h4⟩
  have nums : ∀ ns : List Int, ∀ t ∈ ns.map nT, Tm.tame t := fun ns t ht => by obtain ⟨n, _, rfl⟩ := List.mem_map.1 ht; exact tame_nT n
  have leaf : ∀ o v, ∀ t ∈ [Tm.mk o v []], Tm.tame t := fun o v t ht => by simp only [List.mem_cons, List.not_mem_nil, or_false] at ht; subst ht; exact tame_leaf o v
  unfold paF
  simp only
  split
  · refine ⟨two _ _ _ _ (by simp) (nums [_]) ?_ ?_, by simp⟩
    · have := paNm_len (nxV l (nxA l (nxA l k)) 4)
      simp only [List.length_append, bqN, byT, List.length_map, List.length_cons, List.length_nil]
      omega
    · intro t ht
      rcases List.mem_append.1 ht with ht | ht
      · exact nums [_, _, _, _, _, _, _, _, _, _, _, _, _, _, _, _, _, _] t ht
      · obtain ⟨c, _, rfl⟩ := List.mem_map.1 ht; exact tame_nT _
  split
  · exact ⟨one _ _ (by simp) (leaf _ _), by simp⟩
  split
  · exact ⟨one _ _ (by simp) (nums [_]), by simp⟩
  split
  · refine ⟨two _ _ _ _ (by simp) ?_ (by simp) (nums [_]), by simp⟩
    intro t ht
    simp only [List.mem_cons, List.not_mem_nil, or_false] at ht
    rcases ht with rfl | rfl
    · exact tame_nT _
    · exact ⟨by simp, tame_leaf _ _, trivial⟩
  split
  · exact ⟨one _ _ (by simp) (nums [_, _]), by simp⟩
  split
  · exact ⟨one _ _ (by simp) (by simp), by simp⟩
  split
  · exact ⟨one _ _ (by simp) (leaf _ _), by simp⟩
  split
  · exact ⟨one _ _ (by simp) (nums [_]), by simp⟩
  · refine ⟨one _ _ ?_ ?_, by simp⟩
    · have := nxV_range hB (k := nxA l (nxA l k)) (n := 2 + 1) (by decide)
      rw [drS, drL_len]; omega
    · intro t ht
      exact Tm.tames_mem (drL_tame (drT_tame hB 1) _ _) ht
theorem drC_good {l : List Int} (hB : Bytes l) (s : Int) (b : Bx) : ∀ n k, Good (drC (paF l s b) n k).1 ∧ (drC (paF l s b) n k).1.length ≤ 2 * n
  | 0, k => ⟨fun t ht => (by cases ht), by simp [drC]⟩
  | n + 1, k => by
    have h1 := paF_good hB s b k
    have h2 := drC_good hB s b n (paF l s b k).2
    rw [drC]
    refine ⟨fun t ht => ?_, by rw [List.length_append]; omega⟩
    rcases List.mem_append.1 ht with ht | ht
    · exact h1.1 t ht
    · exact h2.1 t ht
end Go.Proofs.Ytahiikdkgbbmfaa

namespace Go.Proofs.Ytahiikdkgbbmfaa
open Go.VM
/-- the box of the parts that are drawn -/
def paB (l : List Int) (s : Int) (b : Bx) (k : Nat) : Bx × Nat := (if nxV l (bxF l s k).2 2 = 1 then b.swap else (bxF l s k).1.swap, nxA l (bxF l s k).2)
/-- the parts that are drawn -/
def paS (l : List Int) (s : Int) (b : Bx) (k : Nat) : List Tm × Nat := drC (paF l s (paB l s b k).1) ((nxV l (paB l s b k).2 6).toNat + 1) (nxA l (paB l s b k).2)
set_option maxRecDepth 20000 in
set_option maxHeartbeats 8000000 in
theorem e37 {l : List Int} (hB : Bytes l) (g : Gw) (hk0 : g.kids = []) (hs : g.id = 0 ∨ g.id = 1) {n : Nat} (hn : n < 1000) (hn1 : g.rules.length = n + 1) {r : Ru} (hr : g.rules[n]? = some r) {b : Bx} {bs : List Bx} (hb : r.bs = b :: bs) (id k : Nat) : ∀ bl, CtxOk bl id →
    CV VP 37 [.ptr id 0, g.ag] (cx bl id l (k : Nat) []) = some ⟨.d (.sl ((paS l g.id b k).1.map Tm.row)), cx bl id l ((paS l g.id b k).2 : Nat) [], [], 0⟩ := by
  intro bl h
  obtain ⟨gid, gpeer, gloc, grem, grules, ggroups, gnow, gcount, gguard, gvault, gredir, ghalf, gsas, gkids, gtickets⟩ := g
  simp only at hk0 hs hn1 hr ⊢
  subst hk0
  have cN : ∀ (n : Int), 0 < n → n ≤ 256 → ∀ (k : Nat) (own : List (List V)), own.map V.erL = own → own.all (V.ltbL (bl.length + own.length)) = true → CV VP 29 [.ptr id 0, .d (I n)] (cx bl id l (k : Nat) own) = some ⟨.d (I (nxV l k n)), cx bl id l (nxA l k : Nat) own, [], 0⟩ := fun n h1 h2 k own => e29 hB h h1 h2
  have c2 := cN 2 (by decide) (by decide)
  have c6 := cN 6 (by decide) (by decide)
  have cB : ∀ (own : List (List V)), own.map V.erL = own → own.all (V.ltbL (bl.length + own.length)) = true → CV VP 47 [.ptr id 0, .d (I gid)] (cx bl id l (k : Nat) own) = some ⟨(bxF l gid k).1.ag, cx bl id l ((bxF l gid k).2 : Nat) own, [], 0⟩ := fun own => cx_lift ((bxF_ok hB gid (by omega) (by omega) k).2 id) h
  have h51a := e51 (bxF l gid k).1
  have h51b := e51 b
  have hrow : (grules.map Ru.row)[n]? = some [I r.act, .lit (.string r.tm), .sl (b.row :: bs.map Bx.row)] := by rw [List.getElem?_map, hr]; simp [Ru.row, hb]
  have hwn : IntKind.i64.wrap (((n + 1 : Nat) : Int) - 1) = (n : Int) := by rw [w_in (by omega) (by omega)]; omega
  have hps : (0 : Int) < ((n + 1 : Nat) : Int) := by omega
  have hps2 : (0 : Int) < ((bs.length + 1 : Nat) : Int) := by omega
  have hlt : n < n + 1 := by omega
  have r6 := nxV_range hB (k := (paB l gid b k).2) (n := 6) (by decide)
  obtain ⟨x, hx⟩ : ∃ x : Nat, nxV l (paB l gid b k).2 6 = (x : Int) := ⟨_, (Int.toNat_of_nonneg r6.1).symm⟩
  have hx6 : x < 6 := by omega
  have hid := h.lt
  have hb2 : bl.length < bl.length + 2 := by omega
  have hb3 : bl.length + 1 < bl.length + 2 := by omega
  have hid2 : id < bl.length + 2 := by omega
  have e1x : ((x + 1 : Nat) : Int) - 1 = (x : Int) := by omega
  clear cN hr hb hn r6
  have fin := fun gt hgc hgl bx (Q : VExit → St → Prop) kk st hat hQ => L37 hB gid hs gt hgc hgl bx id h (Q := Q) (x + 1) kk [] .nil [] 0 (by omega) (by simp; omega) (.inl ⟨rfl, rfl, rfl⟩) st hat hQ
  simp only [paS, hx, Int.toNat_natCast]
  rw [paB] at hx
  simp only at hx
  unfold paB
  refine CV_run (vf := vf37) rfl rfl ?_
  rw [vf37_start]
  simp only [Gw.ag, Gw.cells, List.map_cons, List.map_nil]
  rw [e1x] at fin
  by_cases h2 : nxV l (bxF l gid k).2 2 = 1
  · simp only [h2, if_true]
    (repeat (first
    | refine RX_seq ?_
    | refine RX_block ?_
    | ((first | refine RX_reg ?_ | refine RX_cond' ?_ | refine RX_draw0 ?_ | refine RX_draw rfl ?_ | refine RX_skip ?_ | refine RX_exit ?_ | refine RX_ret ?_); try (simp only [go_sem, Int.reduceToNat, Nat.reducePow, Int.reduceEq, Int.reduceNe, Int.reduceLT, Int.reduceLE, Nat.reduceAdd, Nat.reduceLeDiff, ↓reduceIte, Nat.reduceLT, Nat.reduceMul, Nat.reduceSub, reduceCtorEq, frzLoc, rowCells, vAppM, beq_iff_eq, bne_iff_ne, bne_self_eq_false, beq_self_eq_true, beq_true, beq_false, I, B, w, vf37_res, vf37_keep, cx_len, cx_app, cx_own0, cx_own, cx_setOwn0, cx_setOwn, cx_take, cx_takeN, Nat.add_right_cancel_iff, Nat.lt_irrefl, cx_nlt, Nat.not_lt_zero, cx_get' h, cx_setId' h, cx_er h, cx_all0 h, cx_all h, CtxOk.lt h, c2, c6, cB, h51a, h51b, hrow, hwn, hps, hps2, hlt, hid, hb2, hb3, hid2, hn1, hx, h2, ibeq, gt_iff_lt, List.length_map]))))
    refine RX_loopN (n := bl.length + 2) (by simp [cx_len]) ?_
    refine fin _ rfl (fun n => rfl) b.swap _ _ _ ⟨rfl, by first | rfl | (simp only [cx_takeN, List.take_succ_cons, List.take_zero]; done) | (simp only [cx_takeN, List.take_succ_cons, List.take_zero]; rfl), rfl, rfl, by simp [cx_len], rfl⟩ ?_
    rintro v live gn st hv hat
    rw [List.nil_append] at hv
    have hm1 : ¬ (0 : Int) ≤ -1 := by decide
    rcases hv with ⟨rfl, rfl, hr0⟩ | ⟨g, rfl, rfl⟩
    · refine RL_at hat (by (simp only [go_sem, Int.reduceToNat, Nat.reducePow, Int.reduceEq, Int.reduceNe, Int.reduceLT, Int.reduceLE, Nat.reduceAdd, Nat.reduceLeDiff, ↓reduceIte, Nat.reduceLT, Nat.reduceMul, Nat.reduceSub, reduceCtorEq, frzLoc, rowCells, vAppM, beq_iff_eq, bne_iff_ne, bne_self_eq_false, beq_self_eq_true, beq_true, beq_false, I, B, w, cx_len, cx_app, cx_own0, cx_own, cx_setOwn0, cx_setOwn, cx_take, cx_takeN, Nat.add_right_cancel_iff, Nat.lt_irrefl, cx_nlt, Nat.not_lt_zero, cx_get' h, cx_setId' h, cx_er h, cx_all0 h, cx_all h, CtxOk.lt h, hb2, hb3, hid2])) (by (simp only [go_sem, Int.reduceToNat, Nat.reducePow, Int.reduceEq, Int.reduceNe, Int.reduceLT, Int.reduceLE, Nat.reduceAdd, Nat.reduceLeDiff, ↓reduceIte, Nat.reduceLT, Nat.reduceMul, Nat.reduceSub, reduceCtorEq, frzLoc, rowCells, vAppM, beq_iff_eq, bne_iff_ne, bne_self_eq_false, beq_self_eq_true, beq_true, beq_false, I, B, w, cx_len, cx_app, cx_own0, cx_own, cx_setOwn0, cx_setOwn, cx_take, cx_takeN, Nat.add_right_cancel_iff, Nat.lt_irrefl, cx_nlt, Nat.not_lt_zero, cx_get' h, cx_setId' h, cx_er h, cx_all0 h, cx_all h, CtxOk.lt h, hb2, hb3, hid2])) (vf37L0_go ?_)
      (repeat (first
    | refine RX_seq ?_
    | refine RX_block ?_
    | ((first | refine RX_reg ?_ | refine RX_cond' ?_ | refine RX_draw0 ?_ | refine RX_draw rfl ?_ | refine RX_skip ?_ | refine RX_exit ?_ | refine RX_ret ?_); try (simp only [go_sem, Int.reduceToNat, Nat.reducePow, Int.reduceEq, Int.reduceNe, Int.reduceLT, Int.reduceLE, Nat.reduceAdd, Nat.reduceLeDiff, ↓reduceIte, Nat.reduceLT, Nat.reduceMul, Nat.reduceSub, reduceCtorEq, frzLoc, rowCells, vAppM, beq_iff_eq, bne_iff_ne, bne_self_eq_false, beq_self_eq_true, beq_true, beq_false, I, B, w, vf37_res, vf37_keep, cx_len, cx_app, cx_own0, cx_own, cx_setOwn0, cx_setOwn, cx_take, cx_takeN, Nat.add_right_cancel_iff, Nat.lt_irrefl, cx_nlt, Nat.not_lt_zero, cx_get' h, cx_setId' h, cx_er h, cx_all0 h, cx_all h, CtxOk.lt h, hid, hb2, hb3, hid2, hm1, ge_iff_le, hr0]))))
    · refine RL_at hat (by (simp only [go_sem, Int.reduceToNat, Nat.reducePow, Int.reduceEq, Int.reduceNe, Int.reduceLT, Int.reduceLE, Nat.reduceAdd, Nat.reduceLeDiff, ↓reduceIte, Nat.reduceLT, Nat.reduceMul, Nat.reduceSub, reduceCtorEq, frzLoc, rowCells, vAppM, beq_iff_eq, bne_iff_ne, bne_self_eq_false, beq_self_eq_true, beq_true, beq_false, I, B, w, cx_len, cx_app, cx_own0, cx_own, cx_setOwn0, cx_setOwn, cx_take, cx_takeN, Nat.add_right_cancel_iff, Nat.lt_irrefl, cx_nlt, Nat.not_lt_zero, cx_get' h, cx_setId' h, cx_er h, cx_all0 h, cx_all h, CtxOk.lt h, hb2, hb3, hid2])) (by (simp only [go_sem, Int.reduceToNat, Nat.reducePow, Int.reduceEq, Int.reduceNe, Int.reduceLT, Int.reduceLE, Nat.reduceAdd, Nat.reduceLeDiff, ↓reduceIte, Nat.reduceLT, Nat.reduceMul, Nat.reduceSub, reduceCtorEq, frzLoc, rowCells, vAppM, beq_iff_eq, bne_iff_ne, bne_self_eq_false, beq_self_eq_true, beq_true, beq_false, I, B, w, cx_len, cx_app, cx_own0, cx_own, cx_setOwn0, cx_setOwn, cx_take, cx_takeN, Nat.add_right_cancel_iff, Nat.lt_irrefl, cx_nlt, Nat.not_lt_zero, cx_get' h, cx_setId' h, cx_er h, cx_all0 h, cx_all h, CtxOk.lt h, hb2, hb3, hid2])) (vf37L0_go ?_)
      (repeat (first
    | refine RX_seq ?_
    | refine RX_block ?_
    | ((first | refine RX_reg ?_ | refine RX_cond' ?_ | refine RX_draw0 ?_ | refine RX_draw rfl ?_ | refine RX_skip ?_ | refine RX_exit ?_ | refine RX_ret ?_); try (simp only [go_sem, Int.reduceToNat, Nat.reducePow, Int.reduceEq, Int.reduceNe, Int.reduceLT, Int.reduceLE, Nat.reduceAdd, Nat.reduceLeDiff, ↓reduceIte, Nat.reduceLT, Nat.reduceMul, Nat.reduceSub, reduceCtorEq, frzLoc, rowCells, vAppM, beq_iff_eq, bne_iff_ne, bne_self_eq_false, beq_self_eq_true, beq_true, beq_false, I, B, w, vf37_res, vf37_keep, cx_len, cx_app, cx_own0, cx_own, cx_setOwn0, cx_setOwn, cx_take, cx_takeN, Nat.add_right_cancel_iff, Nat.lt_irrefl, cx_nlt, Nat.not_lt_zero, cx_get' h, cx_setId' h, cx_er h, cx_all0 h, cx_all h, CtxOk.lt h, hid, hb2, hb3, hid2, hm1, ge_iff_le]))))
  · simp only [h2, if_false]
    (repeat (first
    | refine RX_seq ?_
    | refine RX_block ?_
    | ((first | refine RX_reg ?_ | refine RX_cond' ?_ | refine RX_draw0 ?_ | refine RX_draw rfl ?_ | refine RX_skip ?_ | refine RX_exit ?_ | refine RX_ret ?_); try (simp only [go_sem, Int.reduceToNat, Nat.reducePow, Int.reduceEq, Int.reduceNe, Int.reduceLT, Int.reduceLE, Nat.reduceAdd, Nat.reduceLeDiff, ↓reduceIte, Nat.reduceLT, Nat.reduceMul, Nat.reduceSub, reduceCtorEq, frzLoc, rowCells, vAppM, beq_iff_eq, bne_iff_ne, bne_self_eq_false, beq_self_eq_true, beq_true, beq_false, I, B, w, vf37_res, vf37_keep, cx_len, cx_app, cx_own0, cx_own, cx_setOwn0, cx_setOwn, cx_take, cx_takeN, Nat.add_right_cancel_iff, Nat.lt_irrefl, cx_nlt, Nat.not_lt_zero, cx_get' h, cx_setId' h, cx_er h, cx_all0 h, cx_all h, CtxOk.lt h, c2, c6, cB, h51a, h51b, hrow, hwn, hps, hps2, hlt, hid, hb2, hb3, hid2, hn1, hx, h2, ibeq, gt_iff_lt, List.length_map]))))
    refine RX_loopN (n := bl.length + 2) (by simp [cx_len]) ?_
    refine fin _ rfl (fun n => rfl) (bxF l gid k).1.swap _ _ _ ⟨rfl, by first | rfl | (simp only [cx_takeN, List.take_succ_cons, List.take_zero]; done) | (simp only [cx_takeN, List.take_succ_cons, List.take_zero]; rfl), rfl, rfl, by simp [cx_len], rfl⟩ ?_
    rintro v live gn st hv hat
    rw [List.nil_append] at hv
    have hm1 : ¬ (0 : Int) ≤ -1 := by decide
    rcases hv with ⟨rfl, rfl, hr0⟩ | ⟨g, rfl, rfl⟩
    · refine RL_at hat (by (simp only [go_sem, Int.reduceToNat, Nat.reducePow, Int.reduceEq, Int.reduceNe, Int.reduceLT, Int.reduceLE, Nat.reduceAdd, Nat.reduceLeDiff, ↓reduceIte, Nat.reduceLT, Nat.reduceMul, Nat.reduceSub, reduceCtorEq, frzLoc, rowCells, vAppM, beq_iff_eq, bne_iff_ne, bne_self_eq_false, beq_self_eq_true, beq_true, beq_false, I, B, w, cx_len, cx_app, cx_own0, cx_own, cx_setOwn0, cx_setOwn, cx_take, cx_takeN, Nat.add_right_cancel_iff, Nat.lt_irrefl, cx_nlt, Nat.not_lt_zero, cx_get' h, cx_setId' h, cx_er h, cx_all0 h, cx_all h, CtxOk.lt h, hb2, hb3, hid2])) (by (simp only [go_sem, Int.reduceToNat, Nat.reducePow, Int.reduceEq, Int.reduceNe, Int.reduceLT, Int.reduceLE, Nat.reduceAdd, Nat.reduceLeDiff, ↓reduceIte, Nat.reduceLT, Nat.reduceMul, Nat.reduceSub, reduceCtorEq, frzLoc, rowCells, vAppM, beq_iff_eq, bne_iff_ne, bne_self_eq_false, beq_self_eq_true, beq_true, beq_false, I, B, w, cx_len, cx_app, cx_own0, cx_own, cx_setOwn0, cx_setOwn, cx_take, cx_takeN, Nat.add_right_cancel_iff, Nat.lt_irrefl, cx_nlt, Nat.not_lt_zero, cx_get' h, cx_setId' h, cx_er h, cx_all0 h, cx_all h, CtxOk.lt h, hb2, hb3, hid2])) (vf37L0_go ?_)
      (repeat (first
    | refine RX_seq ?_
    | refine RX_block ?_
    | ((first | refine RX_reg ?_ | refine RX_cond' ?_ | refine RX_draw0 ?_ | refine RX_draw rfl ?_ | refine RX_skip ?_ | refine RX_exit ?_ | refine RX_ret ?_); try (simp only [go_sem, Int.reduceToNat, Nat.reducePow, Int.reduceEq, Int.reduceNe, Int.reduceLT, Int.reduceLE, Nat.reduceAdd, Nat.reduceLeDiff, ↓reduceIte, Nat.reduceLT, Nat.reduceMul, Nat.reduceSub, reduceCtorEq, frzLoc, rowCells, vAppM, beq_iff_eq, bne_iff_ne, bne_self_eq_false, beq_self_eq_true, beq_true, beq_false, I, B, w, vf37_res, vf37_keep, cx_len, cx_app, cx_own0, cx_own, cx_setOwn0, cx_setOwn, cx_take, cx_takeN, Nat.add_right_cancel_iff, Nat.lt_irrefl, cx_nlt, Nat.not_lt_zero, cx_get' h, cx_setId' h, cx_er h, cx_all0 h, cx_all h, CtxOk.lt h, hid, hb2, hb3, hid2, hm1, ge_iff_le, hr0]))))
    · refine RL_at hat (by (simp only [go_sem, Int.reduceToNat, Nat.reducePow, Int.reduceEq, Int.reduceNe, Int.reduceLT, Int.reduceLE, Nat.reduceAdd, Nat.reduceLeDiff, ↓reduceIte, Nat.reduceLT, Nat.reduceMul, Nat.reduceSub, reduceCtorEq, frzLoc, rowCells, vAppM, beq_iff_eq, bne_iff_ne, bne_self_eq_false, beq_self_eq_true, beq_true, beq_false, I, B, w, cx_len, cx_app, cx_own0, cx_own, cx_setOwn0, cx_setOwn, cx_take, cx_takeN, Nat.add_right_cancel_iff, Nat.lt_irrefl, cx_nlt, Nat.not_lt_zero, cx_get' h, cx_setId' h, cx_er h, cx_all0 h, cx_all h, CtxOk.lt h, hb2, hb3, hid2])) (by (simp only [go_sem, Int.reduceToNat, Nat.reducePow, Int.reduceEq, Int.reduceNe, Int.reduceLT, Int.reduceLE, Nat.reduceAdd, Nat.reduceLeDiff, ↓reduceIte, Nat.reduceLT, Nat.reduceMul, Nat.reduceSub, reduceCtorEq, frzLoc, rowCells, vAppM, beq_iff_eq, bne_iff_ne, bne_self_eq_false, beq_self_eq_true, beq_true, beq_false, I, B, w, cx_len, cx_app, cx_own0, cx_own, cx_setOwn0, cx_setOwn, cx_take, cx_takeN, Nat.add_right_cancel_iff, Nat.lt_irrefl, cx_nlt, Nat.not_lt_zero, cx_get' h, cx_setId' h, cx_er h, cx_all0 h, cx_all h, CtxOk.lt h, hb2, hb3, hid2])) (vf37L0_go ?_)
      (repeat (first
    | refine RX_seq ?_
    | refine RX_block ?_
    | ((first | refine RX_reg ?_ | refine RX_cond' ?_ | refine RX_draw0 ?_ | refine RX_draw rfl ?_ | refine RX_skip ?_ | refine RX_exit ?_ | refine RX_ret ?_); try (simp only [go_sem, Int.reduceToNat, Nat.reducePow, Int.reduceEq, Int.reduceNe, Int.reduceLT, Int.reduceLE, Nat.reduceAdd, Nat.reduceLeDiff, ↓reduceIte, Nat.reduceLT, Nat.reduceMul, Nat.reduceSub, reduceCtorEq, frzLoc, rowCells, vAppM, beq_iff_eq, bne_iff_ne, bne_self_eq_false, beq_self_eq_true, beq_true, beq_false, I, B, w, vf37_res, vf37_keep, cx_len, cx_app, cx_own0, cx_own, cx_setOwn0, cx_setOwn, cx_take, cx_takeN, Nat.add_right_cancel_iff, Nat.lt_irrefl, cx_nlt, Nat.not_lt_zero, cx_get' h, cx_setId' h, cx_er h, cx_all0 h, cx_all h, CtxOk.lt h, hid, hb2, hb3, hid2, hm1, ge_iff_le]))))
end Go.Proofs.Ytahiikdkgbbmfaa

namespace Go.Proofs.Ytahiikdkgbbmfaa
open Go.VM
theorem paS_good {l : List Int} (hB : Bytes l) (s : Int) (b : Bx) (k : Nat) : Good (paS l s b k).1 ∧ (paS l s b k).1.length ≤ 12 := by
  have r := nxV_range hB (k := (paB l s b k).2) (n := 6) (by decide)
  have h := drC_good hB s (paB l s b k).1 ((nxV l (paB l s b k).2 6).toNat + 1) (nxA l (paB l s b k).2)
  exact ⟨h.1, by have := h.2; unfold paS; omega⟩
abbrev cdB (q : List Int) (k : Nat) : List V := [.d (.sl (q.map byteRow)), .d (I (k : Nat))]
/-- the gateway of the scenes, and the box of its last rule -/
theorem gaF_a {q : List Int} (hB : Bytes q) (k : Nat) : ∃ n r b bs, n < 1000 ∧ (gaF q k).1.1.kids = [] ∧ (gaF q k).1.1.id = 0 ∧ (gaF q k).1.1.rules.length = n + 1 ∧ (gaF q k).1.1.rules[n]? = some r ∧ r.bs = b :: bs := by
  have h1 := ruS_len hB 0 (nxA q k)
  have h2 := ruS_fine hB (s := 0) (by decide) (by decide) (nxA q k)
  obtain ⟨n, hn⟩ : ∃ n, (ruS q 0 (nxA q k)).1.length = n + 1 := ⟨(ruS q 0 (nxA q k)).1.length - 1, by omega⟩
  obtain ⟨r, hr⟩ : ∃ r, (ruS q 0 (nxA q k)).1[n]? = some r := ⟨_, List.getElem?_eq_getElem (by omega)⟩
  have hp := (h2 r (List.mem_of_getElem? hr)).pos
  obtain ⟨b, bs, hb⟩ : ∃ b bs, r.bs = b :: bs := by
    cases h : r.bs with
    | nil => rw [h] at hp; simp at hp
    | cons b bs => exact ⟨b, bs, rfl⟩
  exact ⟨n, r, b, bs, by omega, rfl, rfl, hn, hr, hb⟩
end Go.Proofs.Ytahiikdkgbbmfaa

namespace Go.Proofs.Ytahiikdkgbbmfaa
open Go.VM
/-- the cells of a cursor -/
def curC (rows : List (List D)) (n : Nat) (b : Bool) : List V := [.d (.sl rows), .d (I (n : Nat)), .d (B b)]
theorem e106g {rows : List (List D)} {n : Nat} {o v x : D} (hn : n < 1000000) (hl : n < rows.length) (hr : rows[n]? = some [o, v, x]) (id : Nat) : ∀ bl, CtxOk bl id →
    CV VP 106 [.ptr id 0] (gx bl id [.d (.sl rows), .d (I (n : Nat)), .d (B false)] []) = some ⟨.agg [.d o, .d v, .d x], gx bl id [.d (.sl rows), .d (I ((n + 1 : Nat) : Int)), .d (B false)] [], [], 0⟩ := by
  intro bl h
  have hid := h.lt
  have h1 : ¬ (rows.length : Int) ≤ (n : Int) := by omega
  have hwi := w_nat (i := n) (by omega)
  have hwd : IntKind.i64.wrap (((n + 1 : Nat) : Int) - 1) = (n : Int) := by rw [w_in (by omega) (by omega)]; omega
  refine CV_run (vf := vf106) rfl rfl ?_
  rw [vf106_start]
  (repeat (first
    | refine RX_seq ?_
    | refine RX_block ?_
    | ((first | refine RX_reg ?_ | refine RX_cond' ?_ | refine RX_draw0 ?_ | refine RX_draw rfl ?_ | refine RX_skip ?_ | refine RX_exit ?_ | refine RX_ret ?_); try (simp only [go_sem, Int.reduceToNat, Nat.reducePow, Int.reduceEq, Int.reduceNe, Int.reduceLT, Int.reduceLE, Nat.reduceAdd, Nat.reduceLeDiff, ↓reduceIte, Nat.reduceLT, Nat.reduceMul, Nat.reduceSub, reduceCtorEq, frzLoc, rowCells, vAppM, beq_iff_eq, bne_iff_ne, bne_self_eq_false, beq_self_eq_true, beq_true, beq_false, I, B, w, vf106_res, vf106_keep, gx_len, gx_app, gx_get h, gx_own0, gx_own, gx_set h, gx_setOwn0, gx_setOwn, gx_er h, gx_take, gx_all0 h, gx_all h, ge_iff_le, hid, h1, hwi, hwd, hl, hr, Nat.add_right_cancel_iff, Nat.lt_irrefl, cx_nlt, Nat.not_lt_zero, Nat.ne_of_lt hid, Nat.le_add_right]))))
  done
theorem e106b {rows : List (List D)} {n : Int} (id : Nat) : ∀ bl, CtxOk bl id →
    CV VP 106 [.ptr id 0] (gx bl id [.d (.sl rows), .d (I n), .d (B true)] []) = some ⟨.agg [.d (I 0), .d (I 0), .d (.sl [])], gx bl id [.d (.sl rows), .d (I n), .d (B true)] [], [], 0⟩ := by
  intro bl h
  have hid := h.lt
  refine CV_run (vf := vf106) rfl rfl ?_
  rw [vf106_start]
  (repeat (first
    | refine RX_seq ?_
    | refine RX_block ?_
    | ((first | refine RX_reg ?_ | refine RX_cond' ?_ | refine RX_draw0 ?_ | refine RX_draw rfl ?_ | refine RX_skip ?_ | refine RX_exit ?_ | refine RX_ret ?_); try (simp only [go_sem, Int.reduceToNat, Nat.reducePow, Int.reduceEq, Int.reduceNe, Int.reduceLT, Int.reduceLE, Nat.reduceAdd, Nat.reduceLeDiff, ↓reduceIte, Nat.reduceLT, Nat.reduceMul, Nat.reduceSub, reduceCtorEq, frzLoc, rowCells, vAppM, beq_iff_eq, bne_iff_ne, bne_self_eq_false, beq_self_eq_true, beq_true, beq_false, I, B, w, vf106_res, vf106_keep, gx_len, gx_app, gx_get h, gx_own0, gx_own, gx_set h, gx_setOwn0, gx_setOwn, gx_er h, gx_take, gx_all0 h, gx_all h, ge_iff_le, hid, Nat.add_right_cancel_iff, Nat.lt_irrefl, cx_nlt, Nat.not_lt_zero, Nat.ne_of_lt hid, Nat.le_add_right]))))
  done
theorem e87g {rows : List (List D)} {n : Nat} {o v : Int} {x : D} (hn : n < 1000000) (hl : n < rows.length) (hr : rows[n]? = some [I o, I v, x]) (id : Nat) : ∀ bl, CtxOk bl id →
    CV VP 87 [.ptr id 0] (gx bl id [.d (.sl rows), .d (I (n : Nat)), .d (B false)] []) = some ⟨.d (I v), gx bl id [.d (.sl rows), .d (I ((n + 1 : Nat) : Int)), .d (B (decide (¬ o = 1)))] [], [], 0⟩ := by
  intro bl h
  have hid := h.lt
  have h106 := e106g hn hl hr id bl h
  clear hl hr
  refine CV_run (vf := vf87) rfl rfl ?_
  rw [vf87_start]
  by_cases ho : o = 1
  · (repeat (first
    | refine RX_seq ?_
    | refine RX_block ?_
    | ((first | refine RX_reg ?_ | refine RX_cond' ?_ | refine RX_draw0 ?_ | refine RX_draw rfl ?_ | refine RX_skip ?_ | refine RX_exit ?_ | refine RX_ret ?_); try (simp only [go_sem, Int.reduceToNat, Nat.reducePow, Int.reduceEq, Int.reduceNe, Int.reduceLT, Int.reduceLE, Nat.reduceAdd, Nat.reduceLeDiff, ↓reduceIte, Nat.reduceLT, Nat.reduceMul, Nat.reduceSub, reduceCtorEq, frzLoc, rowCells, vAppM, beq_iff_eq, bne_iff_ne, bne_self_eq_false, beq_self_eq_true, beq_true, beq_false, I, B, w, vf87_res, vf87_keep, gx_len, gx_app, gx_get h, gx_own0, gx_own, gx_set h, gx_setOwn0, gx_setOwn, gx_er h, gx_take, gx_all0 h, gx_all h, hid, Nat.add_right_cancel_iff, Nat.lt_irrefl, cx_nlt, Nat.not_lt_zero, Nat.ne_of_lt hid, Nat.le_add_right, h106, ibne, ho, decide_not]))))
    done
  · (repeat (first
    | refine RX_seq ?_
    | refine RX_block ?_
    | ((first | refine RX_reg ?_ | refine RX_cond' ?_ | refine RX_draw0 ?_ | refine RX_draw rfl ?_ | refine RX_skip ?_ | refine RX_exit ?_ | refine RX_ret ?_); try (simp only [go_sem, Int.reduceToNat, Nat.reducePow, Int.reduceEq, Int.reduceNe, Int.reduceLT, Int.reduceLE, Nat.reduceAdd, Nat.reduceLeDiff, ↓reduceIte, Nat.reduceLT, Nat.reduceMul, Nat.reduceSub, reduceCtorEq, frzLoc, rowCells, vAppM, beq_iff_eq, bne_iff_ne, bne_self_eq_false, beq_self_eq_true, beq_true, beq_false, I, B, w, vf87_res, vf87_keep, gx_len, gx_app, gx_get h, gx_own0, gx_own, gx_set h, gx_setOwn0, gx_setOwn, gx_er h, gx_take, gx_all0 h, gx_all h, hid, Nat.add_right_cancel_iff, Nat.lt_irrefl, cx_nlt, Nat.not_lt_zero, Nat.ne_of_lt hid, Nat.le_add_right, h106, ibne, ho, decide_not]))))
    done
theorem e87b {rows : List (List D)} {n : Int} (id : Nat) : ∀ bl, CtxOk bl id →
    CV VP 87 [.ptr id 0] (gx bl id [.d (.sl rows), .d (I n), .d (B true)] []) = some ⟨.d (I 0), gx bl id [.d (.sl rows), .d (I n), .d (B true)] [], [], 0⟩ := by
  intro bl h
  have hid := h.lt
  have h106 := e106b (rows := rows) (n := n) id bl h
  have h01 : ¬ (0 : Int) = 1 := by decide
  refine CV_run (vf := vf87) rfl rfl ?_
  rw [vf87_start]
  (repeat (first
    | refine RX_seq ?_
    | refine RX_block ?_
    | ((first | refine RX_reg ?_ | refine RX_cond' ?_ | refine RX_draw0 ?_ | refine RX_draw rfl ?_ | refine RX_skip ?_ | refine RX_exit ?_ | refine RX_ret ?_); try (simp only [go_sem, Int.reduceToNat, Nat.reducePow, Int.reduceEq, Int.reduceNe, Int.reduceLT, Int.reduceLE, Nat.reduceAdd, Nat.reduceLeDiff, ↓reduceIte, Nat.reduceLT, Nat.reduceMul, Nat.reduceSub, reduceCtorEq, frzLoc, rowCells, vAppM, beq_iff_eq, bne_iff_ne, bne_self_eq_false, beq_self_eq_true, beq_true, beq_false, I, B, w, vf87_res, vf87_keep, gx_len, gx_app, gx_get h, gx_own0, gx_own, gx_set h, gx_setOwn0, gx_setOwn, gx_er h, gx_take, gx_all0 h, gx_all h, hid, Nat.add_right_cancel_iff, Nat.lt_irrefl, cx_nlt, Nat.not_lt_zero, Nat.ne_of_lt hid, Nat.le_add_right, h106, ibne, h01, decide_not]))))
  done
end Go.Proofs.Ytahiikdkgbbmfaa
