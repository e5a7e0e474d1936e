/- Drawn parts on the machine. Conditions: none. -/
import Derived.Test.YtjhfakhmflemmaaVd
import Derived.Test.YtjhfakhmflemmaaSrx
set_option linter.unusedSimpArgs false
namespace Go.Proofs.Ytjhfakhmflemmaa
open Go.VM
/-- a part -/
def pT (n : Int) (ts : List Tm) : Tm := .mk 3 0 (nT n :: ts)
theorem nT_row (n : Int) : (nT n).row = [I 1, I n, .sl []] := by simp [nT, Tm.row_mk]
theorem e40 (n : Int) (ts : List Tm) (h : ts.length < 1000000) : CV VP 70 [.d (I n), .d (.sl (ts.map Tm.row))] [] = some ⟨(pT n ts).ag, [], [], 0⟩ := by
  have h1 := Tm.rows3 (nT n :: ts) (by simp only [List.length_cons]; omega)
  have h2 := Tm.rows3 ts (by omega)
  have h33 := e33 h1
  have hra : (ts.map Tm.row).all (fun r => r.length == 3) = true := h2.2
  have hl : ts.length ≤ 4294967296 := by omega
  have hl2 : ts.length + 1 ≤ 4294967296 := by omega
  simp only [pT, Tm.ag, Tm.op_mk, Tm.val_mk, Tm.args_mk, List.map_cons, nT_row] at h33 ⊢
  refine CV_run (vf := vf70) rfl rfl ?_
  rw [vf70_start]
  (repeat (first
    | refine RX_seq ?_
    | refine RX_block ?_
    | ((first | refine RX_reg ?_ | refine RX_cond' ?_ | refine RX_draw0 ?_ | refine RX_draw rfl ?_ | refine RX_skip ?_ | refine RX_exit ?_ | refine RX_ret ?_); try (simp only [go_sem, Nat.max_zero, List.isEmpty_cons, Int.reduceToNat, Nat.reducePow, Int.reduceEq, Int.reduceNe, Int.reduceLT, Int.reduceLE, Nat.reduceAdd, Nat.reduceLeDiff, ↓reduceIte, Nat.reduceLT, Nat.reduceMul, Nat.reduceSub, reduceCtorEq, frzLoc, rowCells, vAppM, beq_iff_eq, bne_iff_ne, bne_self_eq_false, beq_self_eq_true, beq_true, beq_false, I, B, w, vf70_res, vf70_keep, e75, h33, hra, hl, hl2, List.length_map, Nat.add_comm 1]))))
/-- the numbers of a box -/
def bqN (f0 h0 a0 f1 h1 a1 f2 h2 a2 f3 h3 a3 p0 p1 l0 l1 r0 r1 : Int) : List Tm :=
  [nT f0, nT (w h0), nT (w a0), nT f1, nT (w h1), nT (w a1), nT f2, nT (w h2), nT (w a2), nT f3, nT (w h3), nT (w a3), nT p0, nT p1, nT l0, nT l1, nT r0, nT r1]
def byT (t : List UInt8) : List Tm := t.map fun c => nT (c.toNat : Int)
set_option maxHeartbeats 4000000 in
theorem e64 (f0 h0 a0 f1 h1 a1 f2 h2 a2 f3 h3 a3 p0 p1 l0 l1 r0 r1 : Int) (t : ByteArray) (ht : t.size < 100000) :
    CV VP 29 [.agg [.d (I f0), .d (U h0), .d (U a0), .d (I f1), .d (U h1), .d (U a1), .d (I f2), .d (U h2), .d (U a2), .d (I f3), .d (U h3), .d (U a3), .d (I p0), .d (I p1), .d (I l0), .d (I l1), .d (I r0), .d (I r1)], .d (.lit (.string t))] [] =
      some ⟨(pT 11 (bqN f0 h0 a0 f1 h1 a1 f2 h2 a2 f3 h3 a3 p0 p1 l0 l1 r0 r1 ++ byT t.data.toList)).ag, [], [], 0⟩ := by
  have w0 : IntKind.i64.wrap (0 + 1) = 1 := rfl
  have w1 : IntKind.i64.wrap (1 + 1) = 2 := rfl
  have w2 : IntKind.i64.wrap (2 + 1) = 3 := rfl
  have w3 : IntKind.i64.wrap (3 + 1) = 4 := rfl
  generalize hN : bqN f0 h0 a0 f1 h1 a1 f2 h2 a2 f3 h3 a3 p0 p1 l0 l1 r0 r1 = N
  have hNr : N.map Tm.row = [[I 1, I f0, .sl []], [I 1, I (w h0), .sl []], [I 1, I (w a0), .sl []], [I 1, I f1, .sl []], [I 1, I (w h1), .sl []], [I 1, I (w a1), .sl []], [I 1, I f2, .sl []], [I 1, I (w h2), .sl []], [I 1, I (w a2), .sl []], [I 1, I f3, .sl []], [I 1, I (w h3), .sl []], [I 1, I (w a3), .sl []], [I 1, I p0, .sl []], [I 1, I p1, .sl []], [I 1, I l0, .sl []], [I 1, I l1, .sl []], [I 1, I r0, .sl []], [I 1, I r1, .sl []]] := by
    rw [← hN]; simp only [bqN, List.map_cons, List.map_nil, nT_row]
  have hNl : N.length = 18 := by rw [← hN]; rfl
  refine CV_run (vf := vf29) rfl rfl ?_
  rw [vf29_start]
  (repeat' (first
    | refine RX_seq ?_
    | refine RX_block ?_
    | ((first | refine RX_reg ?_ | refine RX_cond' ?_ | refine RX_draw0 ?_ | refine RX_draw rfl ?_ | refine RX_skip ?_ | refine RX_exit ?_ | refine RX_ret ?_); try (simp only [go_sem, Nat.max_zero, List.isEmpty_cons, Int.reduceToNat, Nat.reducePow, Int.reduceEq, Int.reduceNe, Int.reduceLT, Int.reduceLE, Nat.reduceAdd, Nat.reduceLeDiff, ↓reduceIte, Nat.reduceLT, Nat.reduceMul, Nat.reduceSub, reduceCtorEq, frzLoc, rowCells, vAppM, bne_self_eq_false, beq_self_eq_true, beq_true, beq_false, I, B, w, ibeq, ibne, bbeq, decide_eq_false_iff_not, decide_not, Bool.not_not, Decidable.not_not, Bool.not_eq_eq_eq_not, gt_iff_lt, ge_iff_le, and_false, false_and, or_self, and_self, vf29_res, vf29_keep, e75, *]))
    | (refine ite_ngo (fun _ => ?_) (fun _ => ?_) <;> try (simp only [go_sem, Nat.max_zero, List.isEmpty_cons, Int.reduceToNat, Nat.reducePow, Int.reduceEq, Int.reduceNe, Int.reduceLT, Int.reduceLE, Nat.reduceAdd, Nat.reduceLeDiff, ↓reduceIte, Nat.reduceLT, Nat.reduceMul, Nat.reduceSub, reduceCtorEq, frzLoc, rowCells, vAppM, bne_self_eq_false, beq_self_eq_true, beq_true, beq_false, I, B, w, ibeq, ibne, bbeq, decide_eq_false_iff_not, decide_not, Bool.not_not, Decidable.not_not, Bool.not_eq_eq_eq_not, gt_iff_lt, ge_iff_le, and_false, false_and, or_self, and_self, vf29_res, vf29_keep, e75, *]))
    | (refine ite_go (fun _ => ?_) (fun _ => ?_) <;> try (simp only [go_sem, Nat.max_zero, List.isEmpty_cons, Int.reduceToNat, Nat.reducePow, Int.reduceEq, Int.reduceNe, Int.reduceLT, Int.reduceLE, Nat.reduceAdd, Nat.reduceLeDiff, ↓reduceIte, Nat.reduceLT, Nat.reduceMul, Nat.reduceSub, reduceCtorEq, frzLoc, rowCells, vAppM, bne_self_eq_false, beq_self_eq_true, beq_true, beq_false, I, B, w, ibeq, ibne, bbeq, decide_eq_false_iff_not, decide_not, Bool.not_not, Decidable.not_not, Bool.not_eq_eq_eq_not, gt_iff_lt, ge_iff_le, and_false, false_and, or_self, and_self, vf29_res, vf29_keep, e75, *]))
    | (refine RL_head ?_; simp only [go_sem, Nat.max_zero, List.isEmpty_cons, Int.reduceToNat, Nat.reducePow, Int.reduceEq, Int.reduceNe, Int.reduceLT, Int.reduceLE, Nat.reduceAdd, Nat.reduceLeDiff, ↓reduceIte, Nat.reduceLT, Nat.reduceMul, Nat.reduceSub, reduceCtorEq, frzLoc, rowCells, vAppM, bne_self_eq_false, beq_self_eq_true, beq_true, beq_false, I, B, w, ibeq, ibne, bbeq, decide_eq_false_iff_not, decide_not, Bool.not_not, Decidable.not_not, Bool.not_eq_eq_eq_not, gt_iff_lt, ge_iff_le, and_false, false_and, or_self, and_self, vf29_res, vf29_keep, e75, *, St.head, forget, vf29K0, RLK_some]; refine vf29L0_go ?_)
    | refine RX_loop ?_))
  refine (?_ : RL VP vf29K1 vf29L1 2 _ _)
  refine RL_ind (fun m st => ∃ (i g gn : Nat) (rows : List (List D)), i + m = t.size ∧ rows = (N ++ byT (t.data.toList.take i)).map Tm.row ∧
    At vf29K1 2 st ((.any :: .d (.lit (.string t)) :: .any :: .any :: .ptr 1 0 :: .sl 3 rows (.own 0 g) :: .any :: .any :: .d (I (i : Nat)) :: .any :: .any :: .any :: .any :: .any :: .any :: .any :: .any :: .any :: .any :: .any :: .any :: .any :: .any :: .any :: .any :: .any :: .any :: .any :: .any :: .any :: .any :: .any :: .any :: .any :: .any :: .any :: .any :: .any :: .any :: .any :: .any :: .any :: .any :: .any :: .any :: .any :: .any :: .any :: .any :: .any :: .any :: .any :: .any :: .any :: .any :: .any :: .any :: .any :: .any :: .any :: .any :: .any :: .any :: .any :: .any :: .any :: .any :: .any :: .any :: .any :: .any :: .any :: .any :: .any :: .any :: .any :: .any :: .any :: .any :: []))
      [[.d (I f0), .d (U h0), .d (U a0), .d (I f1), .d (U h1), .d (U a1), .d (I f2), .d (U h2), .d (U a2), .d (I f3), .d (U h3), .d (U a3), .d (I p0), .d (I p1), .d (I l0), .d (I l1), .d (I r0), .d (I r1)], [.d (I 0), .d (I 0), .nil]] [g] gn 0) ?_ t.size _
    ⟨0, _, _, _, Nat.zero_add _, ?_, rfl, rfl, rfl, rfl, rfl, rfl⟩
  case refine_2 => simp only [List.take_zero, byT, List.map_nil, List.append_nil]; exact hNr.symm
  rintro m st ⟨i, g, gn, rows, hi, hrows, hat⟩ ih
  refine RL_at hat rfl rfl (vf29L1_go ?_)
  clear hat
  have hsz : t.data.toList.length = t.size := Array.length_toList
  have hrl : rows.length ≤ 200000 := by rw [hrows, List.length_map, List.length_append, hNl, byT, List.length_map, List.length_take]; omega
  cases m with
  | zero =>
    have h1 : ¬ i < t.size := by omega
    rw [List.take_of_length_le (by omega)] at hrows
    have h40 := e40 11 (N ++ byT t.data.toList) (by rw [List.length_append, hNl, byT, List.length_map]; omega)
    rw [← hrows] at h40
    simp only [pT, Tm.ag, Tm.op_mk, Tm.val_mk, Tm.args_mk] at h40 ⊢
    generalize N ++ byT t.data.toList = A at *
    (repeat (first
    | refine RX_seq ?_
    | refine RX_block ?_
    | ((first | refine RX_reg ?_ | refine RX_cond' ?_ | refine RX_draw0 ?_ | refine RX_draw rfl ?_ | refine RX_skip ?_ | refine RX_exit ?_ | refine RX_ret ?_); try (simp only [go_sem, Nat.max_zero, List.isEmpty_cons, Int.reduceToNat, Nat.reducePow, Int.reduceEq, Int.reduceNe, Int.reduceLT, Int.reduceLE, Nat.reduceAdd, Nat.reduceLeDiff, ↓reduceIte, Nat.reduceLT, Nat.reduceMul, Nat.reduceSub, reduceCtorEq, frzLoc, rowCells, vAppM, beq_iff_eq, bne_iff_ne, bne_self_eq_false, beq_self_eq_true, beq_true, beq_false, I, B, w, vf29_res, vf29_keep, h1, h40, V.str]))))
  | succ m =>
    have h1 : i < t.size := by omega
    have hb : t[i]? = some t[i] := getElem?_pos t i h1
    have hb2 : t.data.toList[i]? = some t[i] := by rw [Array.getElem?_toList]; exact Array.getElem?_eq_getElem h1
    generalize t[i] = b at *
    have wb : IntKind.i64.wrap (b.toNat : Int) = (b.toNat : Int) := w_in (by omega) (by have := b.toNat_lt; omega)
    have hwi := w_nat (i := i) (by omega)
    have hr1 : rows.length + 1 ≤ 4294967296 := by omega
    (repeat (first
    | refine RX_seq ?_
    | refine RX_block ?_
    | ((first | refine RX_reg ?_ | refine RX_cond' ?_ | refine RX_draw0 ?_ | refine RX_draw rfl ?_ | refine RX_skip ?_ | refine RX_exit ?_ | refine RX_ret ?_); try (simp only [go_sem, Nat.max_zero, List.isEmpty_cons, Int.reduceToNat, Nat.reducePow, Int.reduceEq, Int.reduceNe, Int.reduceLT, Int.reduceLE, Nat.reduceAdd, Nat.reduceLeDiff, ↓reduceIte, Nat.reduceLT, Nat.reduceMul, Nat.reduceSub, reduceCtorEq, frzLoc, rowCells, vAppM, beq_iff_eq, bne_iff_ne, bne_self_eq_false, beq_self_eq_true, beq_true, beq_false, I, B, w, vf29_res, vf29_keep, h1, hb, wb, V.str, e75, hwi, hr1]))))
    refine ih m _ (Nat.lt_succ_self m) ⟨i + 1, _, _, _, by omega, ?_, rfl, rfl, rfl, rfl, rfl, rfl⟩
    rw [hrows, List.take_add_one, hb2]
    simp [byT, nT_row]
end Go.Proofs.Ytjhfakhmflemmaa

namespace Go.Proofs.Ytjhfakhmflemmaa
open Go.VM
theorem e40r (n : Int) (rows : List (List D)) (h : rows.length ≤ 1000000) (hr : rows.all (fun r => r.length == 3) = true) : CV VP 70 [.d (I n), .d (.sl rows)] [] = some ⟨.agg [.d (I 3), .d (I 0), .d (.sl ([I 1, I n, .sl []] :: rows))], [], [], 0⟩ := by
  have h33 := e33 (rows := [I 1, I n, .sl []] :: rows) ⟨by simp only [List.length_cons]; omega, by simp [hr]⟩
  have hl : rows.length ≤ 4294967296 := by omega
  have hl2 : rows.length + 1 ≤ 4294967296 := by omega
  refine CV_run (vf := vf70) rfl rfl ?_
  rw [vf70_start]
  (repeat (first
    | refine RX_seq ?_
    | refine RX_block ?_
    | ((first | refine RX_reg ?_ | refine RX_cond' ?_ | refine RX_draw0 ?_ | refine RX_draw rfl ?_ | refine RX_skip ?_ | refine RX_exit ?_ | refine RX_ret ?_); try (simp only [go_sem, Nat.max_zero, List.isEmpty_cons, Int.reduceToNat, Nat.reducePow, Int.reduceEq, Int.reduceNe, Int.reduceLT, Int.reduceLE, Nat.reduceAdd, Nat.reduceLeDiff, ↓reduceIte, Nat.reduceLT, Nat.reduceMul, Nat.reduceSub, reduceCtorEq, frzLoc, rowCells, vAppM, beq_iff_eq, bne_iff_ne, bne_self_eq_false, beq_self_eq_true, beq_true, beq_false, I, B, w, vf70_res, vf70_keep, e75, h33, hr, hl, hl2, Nat.add_comm 1]))))
theorem e85r (n : Int) (rows : List (List D)) (h : rows.length ≤ 1000000) (hr : rows.all (fun r => r.length == 3) = true) : CV VP 86 [.d (I n), .d (.sl rows)] [] = some ⟨.agg [.d (I 3), .d (I 0), .d (.sl ([I 1, I n, .sl []] :: rows))], [], [], 0⟩ := by
  have h40 := e40r n rows h hr
  refine CV_run (vf := vf86) rfl rfl ?_
  rw [vf86_start]
  (repeat (first
    | refine RX_seq ?_
    | refine RX_block ?_
    | ((first | refine RX_reg ?_ | refine RX_cond' ?_ | refine RX_draw0 ?_ | refine RX_draw rfl ?_ | refine RX_skip ?_ | refine RX_exit ?_ | refine RX_ret ?_); try (simp only [go_sem, Nat.max_zero, List.isEmpty_cons, Int.reduceToNat, Nat.reducePow, Int.reduceEq, Int.reduceNe, Int.reduceLT, Int.reduceLE, Nat.reduceAdd, Nat.reduceLeDiff, ↓reduceIte, Nat.reduceLT, Nat.reduceMul, Nat.reduceSub, reduceCtorEq, frzLoc, rowCells, vAppM, beq_iff_eq, bne_iff_ne, bne_self_eq_false, beq_self_eq_true, beq_true, beq_false, I, B, w, vf86_res, vf86_keep, h40]))))
theorem e85n (n : Int) : CV VP 86 [.d (I n), .d (.sl [])] [] = some ⟨.agg [.d (I 3), .d (I 0), .d (.sl [[I 1, I n, .sl []]])], [], [], 0⟩ := e85r n [] (by decide) rfl
/-- lists that are drawn, one behind the other -/
def drC {α : Type} (f : Nat → List α × Nat) : Nat → Nat → List α × Nat
  | 0, k => ([], k)
  | n + 1, k => ((f k).1 ++ (drC f n (f k).2).1, (drC f n (f k).2).2)
/-- the part of a box -/
def bxPt (b : Bx) (t : ByteArray) : Tm := pT 11 (bqN b.f b.h b.a0 b.f b.h b.b0 b.f b.h b.a1 b.f b.h b.b1 b.p0 b.p1 b.l0 b.l1 b.r0 b.r1 ++ byT t.data.toList)
def exx : ByteArray := ⟨#[120]⟩
def paNm (x : Int) : ByteArray := if x = 2 then silver else if x = 3 then exx else gold
/-- the parts that are drawn in one round -/
def paF (l : List Int) (s : Int) (b : Bx) (k : Nat) : List Tm × Nat :=
  let x := nxV l k 14
  let k1 := nxA l k
  let k2 := nxA l k1
  if x = 0 ∨ x = 1 ∨ x = 2 then ([pT 10 [nT (5000 + nxV l k1 4)], bxPt b (paNm (nxV l k2 4))], nxA l k2)
  else if x = 3 ∨ x = 4 ∨ x = 5 then ([pT 3 [gNm (1 - s) (900 + nxV l k1 20)]], k2)
  else if x = 6 ∨ x = 7 then ([pT 13 [nT 1]], k1)
  else if x = 8 then ([pT 2 [nT 31, .mk 4 0 [gNm (1 - s) 930]], pT 10 [nT 6000]], k1)
  else if x = 9 then ([pT 14 [nT 1, nT (nxV l k1 9)]], k2)
  else if x = 10 then ([pT (if nxV l k1 2 = 0 then 15 else 16) []], k2)
  else if x = 11 then ([pT 17 [nmT l k1]], nmA l k1)
  else if x = 12 then ([pT 12 [nT (if nxV l k1 3 = 0 then 43 else if nxV l k1 3 = 1 then 44 else 7)]], k2)
  else ([pT (1 + nxV l k1 18) (drS l 2 1 k2).1], (drS l 2 1 k2).2)
theorem gNm_row (a b : Int) : (gNm a b).row = [I 2, I (w (w (a * 1048576) + b)), .sl []] := by simp [gNm, Tm.row_mk]
theorem nmT_row (l : List Int) (k : Nat) : (nmT l k).row = [I 2, I (nmV l k), .sl []] := by simp [nmT, Tm.row_mk]
theorem pT_row (n : Int) (ts : List Tm) : (pT n ts).row = [I 3, I 0, .sl ([I 1, I n, .sl []] :: ts.map Tm.row)] := by simp [pT, Tm.row_mk, nT_row]
end Go.Proofs.Ytjhfakhmflemmaa

namespace Go.Proofs.Ytjhfakhmflemmaa
open Go.VM
set_option maxRecDepth 20000 in
set_option maxHeartbeats 8000000 in
/-- one round of the loop of Parts -/
theorem L37 {l : List Int} (hB : Bytes l) (s : Int) (hs : s = 0 ∨ s = 1) (gt : List V) (hgc : V.erL gt = gt) (hgl : ∀ n, V.ltbL n gt = true) (b : Bx) (id : Nat) {bl : List (List V)} (h : CtxOk bl id)
    {Q : VExit → St → Prop} (m : Nat) (k : Nat) (acc : List Tm) (v : V) (live : List Nat) (gn : Nat) (hm : m < 100) (ha : acc.length + 2 * m < 1000) (hv : Acc 3 v live (acc.map Tm.row)) (st : St)
    (hat : At vf52K0 (bl.length + 2) st ((.ptr id 0 :: .any :: .any :: .ptr bl.length 0 :: .any :: .d (I 1) :: .ptr (bl.length + 1) 0 :: v :: .d (I ((m : Int) - 1)) :: .any :: .any :: .any :: .any :: .any :: .any :: .any :: .any :: .any :: .any :: .any :: .any :: .any :: .any :: .any :: .any :: .any :: .any :: .any :: .any :: .any :: .any :: .any :: .any :: .any :: .any :: .any :: .any :: .any :: .any :: .any :: .any :: .any :: .any :: .any :: .any :: .any :: .any :: .any :: .any :: .any :: .any :: .any :: .any :: .any :: .any :: .any :: .any :: .any :: .any :: .any :: .any :: .any :: .any :: .any :: .any :: .any :: .any :: .any :: .any :: .any :: .any :: .any :: .any :: .any :: .any :: .any :: .any :: .any :: .any :: .any :: .any :: .any :: .any :: .any :: .any :: .any :: .any :: .any :: .any :: .any :: .any :: .any :: .any :: .any :: .any :: .any :: .any :: .any :: .any :: .any :: .any :: .any :: .any :: .any :: .any :: .any :: .any :: .any :: .any :: .any :: .any :: .any :: .any :: .any :: .any :: .any :: .any :: .any :: .any :: .any :: .any :: .any :: .any :: .any :: .any :: .any :: .any :: .any :: .any :: .any :: .any :: .any :: .any :: .any :: .any :: .any :: .any :: .any :: .any :: .any :: .any :: .any :: .any :: .any :: .any :: .any :: .any :: .any :: .any :: .any :: .any :: .any :: .any :: .any :: .any :: .any :: .any :: .any :: .any :: .any :: .any :: .any :: .any :: .any :: .any :: .any :: .any :: .any :: .any :: .any :: .any :: .any :: .any :: .any :: [])) (cx bl id l (k : Nat) [.d (I s) :: gt, b.row.map .d]) live gn bl.length)
    (hQ : ∀ v live gn st, Acc 3 v live ((acc ++ (drC (paF l s b) m k).1).map Tm.row) → At vf52K0 (bl.length + 2) st ((.ptr id 0 :: .any :: .any :: .ptr bl.length 0 :: .any :: .d (I 1) :: .ptr (bl.length + 1) 0 :: v :: .d (I (-1)) :: .any :: .any :: .any :: .any :: .any :: .any :: .any :: .any :: .any :: .any :: .any :: .any :: .any :: .any :: .any :: .any :: .any :: .any :: .any :: .any :: .any :: .any :: .any :: .any :: .any :: .any :: .any :: .any :: .any :: .any :: .any :: .any :: .any :: .any :: .any :: .any :: .any :: .any :: .any :: .any :: .any :: .any :: .any :: .any :: .any :: .any :: .any :: .any :: .any :: .any :: .any :: .any :: .any :: .any :: .any :: .any :: .any :: .any :: .any :: .any :: .any :: .any :: .any :: .any :: .any :: .any :: .any :: .any :: .any :: .any :: .any :: .any :: .any :: .any :: .any :: .any :: .any :: .any :: .any :: .any :: .any :: .any :: .any :: .any :: .any :: .any :: .any :: .any :: .any :: .any :: .any :: .any :: .any :: .any :: .any :: .any :: .any :: .any :: .any :: .any :: .any :: .any :: .any :: .any :: .any :: .any :: .any :: .any :: .any :: .any :: .any :: .any :: .any :: .any :: .any :: .any :: .any :: .any :: .any :: .any :: .any :: .any :: .any :: .any :: .any :: .any :: .any :: .any :: .any :: .any :: .any :: .any :: .any :: .any :: .any :: .any :: .any :: .any :: .any :: .any :: .any :: .any :: .any :: .any :: .any :: .any :: .any :: .any :: .any :: .any :: .any :: .any :: .any :: .any :: .any :: .any :: .any :: .any :: .any :: .any :: .any :: .any :: .any :: .any :: .any :: [])) (cx bl id l ((drC (paF l s b) m k).2 : Nat) [.d (I s) :: gt, b.row.map .d]) live gn bl.length → RL VP vf52K0 vf52L0 (bl.length + 2) st Q) :
    RL VP vf52K0 vf52L0 (bl.length + 2) st Q := by
  induction m generalizing k acc v live gn st with
  | zero =>
    refine hQ v live gn st (by simpa [drC] using hv) ?_
    simpa [drC] using hat
  | succ m ih =>
    have hpa : ∀ v live gn st, Acc 3 v live ((acc ++ (paF l s b k).1).map Tm.row) → At vf52K0 (bl.length + 2) st ((.ptr id 0 :: .any :: .any :: .ptr bl.length 0 :: .any :: .d (I 1) :: .ptr (bl.length + 1) 0 :: v :: .d (I ((m : Int) - 1)) :: .any :: .any :: .any :: .any :: .any :: .any :: .any :: .any :: .any :: .any :: .any :: .any :: .any :: .any :: .any :: .any :: .any :: .any :: .any :: .any :: .any :: .any :: .any :: .any :: .any :: .any :: .any :: .any :: .any :: .any :: .any :: .any :: .any :: .any :: .any :: .any :: .any :: .any :: .any :: .any :: .any :: .any :: .any :: .any :: .any :: .any :: .any :: .any :: .any :: .any :: .any :: .any :: .any :: .any :: .any :: .any :: .any :: .any :: .any :: .any :: .any :: .any :: .any :: .any :: .any :: .any :: .any :: .any :: .any :: .any :: .any :: .any :: .any :: .any :: .any :: .any :: .any :: .any :: .any :: .any :: .any :: .any :: .any :: .any :: .any :: .any :: .any :: .any :: .any :: .any :: .any :: .any :: .any :: .any :: .any :: .any :: .any :: .any :: .any :: .any :: .any :: .any :: .any :: .any :: .any :: .any :: .any :: .any :: .any :: .any :: .any :: .any :: .any :: .any :: .any :: .any :: .any :: .any :: .any :: .any :: .any :: .any :: .any :: .any :: .any :: .any :: .any :: .any :: .any :: .any :: .any :: .any :: .any :: .any :: .any :: .any :: .any :: .any :: .any :: .any :: .any :: .any :: .any :: .any :: .any :: .any :: .any :: .any :: .any :: .any :: .any :: .any :: .any :: .any :: .any :: .any :: .any :: .any :: .any :: .any :: .any :: .any :: .any :: .any :: .any :: [])) (cx bl id l ((paF l s b k).2 : Nat) [.d (I s) :: gt, b.row.map .d]) live gn bl.length → (paF l s b k).1.length ≤ 2 → RL VP vf52K0 vf52L0 (bl.length + 2) st Q := by
      intro v live gn st hv hat hlen
      refine ih (paF l s b k).2 _ v live gn (by omega) (by rw [List.length_append]; omega) hv st hat fun v live gn st hv hat => hQ v live gn st ?_ ?_
      · rw [drC]; simpa [List.append_assoc] using hv
      · rw [drC]; exact hat
    clear hQ ih
    have cN : ∀ (n : Int), 0 < n → n ≤ 256 → ∀ (k : Nat) (own : List (List V)), own.map V.erL = own → own.all (V.ltbL (bl.length + own.length)) = true → CV VP 17 [.ptr id 0, .d (I n)] (cx bl id l (k : Nat) own) = some ⟨.d (I (nxV l k n)), cx bl id l (nxA l k : Nat) own, [], 0⟩ := fun n h1 h2 k own => e29 hB h h1 h2
    have c14 := cN 14 (by decide) (by decide)
    have c4 := cN 4 (by decide) (by decide)
    have c20 := cN 20 (by decide) (by decide)
    have c9 := cN 9 (by decide) (by decide)
    have c2 := cN 2 (by decide) (by decide)
    have c3 := cN 3 (by decide) (by decide)
    have c18 := cN 18 (by decide) (by decide)
    have c68 : ∀ (k : Nat) (own : List (List V)), own.map V.erL = own → own.all (V.ltbL (bl.length + own.length)) = true → CV VP 54 [.ptr id 0] (cx bl id l (k : Nat) own) = some ⟨.agg [.d (I 2), .d (I (nmV l k)), .d (.sl [])], cx bl id l (nmA l k : Nat) own, [], 0⟩ := fun k own => cx_lift (fun bl h => e68b hB id k bl h) h
    have c22 : ∀ (k : Nat) (own : List (List V)), own.map V.erL = own → own.all (V.ltbL (bl.length + own.length)) = true → CV VP 36 [.ptr id 0, .d (I 2), .d (I 2)] (cx bl id l (k : Nat) own) = some ⟨.d (.sl ((drS l 2 1 k).1.map Tm.row)), cx bl id l ((drS l 2 1 k).2 : Nat) own, [], 0⟩ := fun k own => cx_lift (fun bl h => e22b hB 2 (by decide) (by decide) 1 (by decide) id k bl h) h
    have r14 := nxV_range hB (k := k) (n := 14) (by decide)
    have q4 := nxV_range hB (k := nxA l k) (n := 4) (by decide)
    have q4b := nxV_range hB (k := nxA l (nxA l k)) (n := 4) (by decide)
    have q20 := nxV_range hB (k := nxA l k) (n := 20) (by decide)
    have q2 := nxV_range hB (k := nxA l k) (n := 2) (by decide)
    have q3 := nxV_range hB (k := nxA l k) (n := 3) (by decide)
    have q18 := nxV_range hB (k := nxA l k) (n := 18) (by decide)
    have m4 : IntKind.i64.wrap (5000 + nxV l (nxA l k) 4) = 5000 + nxV l (nxA l k) 4 := w_in (by omega) (by omega)
    have m20 : IntKind.i64.wrap (900 + nxV l (nxA l k) 20) = 900 + nxV l (nxA l k) 20 := w_in (by omega) (by omega)
    have m18 : IntKind.i64.wrap (1 + nxV l (nxA l k) 18) = 1 + nxV l (nxA l k) 18 := w_in (by omega) (by omega)
    have ms : IntKind.i64.wrap (1 - s) = 1 - s := w_in (by omega) (by omega)
    have hwm : IntKind.i64.wrap (((m + 1 : Nat) : Int) - 1 - 1) = (m : Int) - 1 := by rw [w_in (by omega) (by omega)]; omega
    have hge : (0 : Int) ≤ ((m + 1 : Nat) : Int) - 1 := by omega
    have h64 : ∀ t, t = gold ∨ t = silver ∨ t = exx → CV VP 29 [b.ag, .d (.lit (.string t))] [] = some ⟨.agg [.d (I 3), .d (I 0), .d (.sl ((bxPt b t).args.map Tm.row))], [], [], 0⟩ := fun t ht => e64 _ _ _ _ _ _ _ _ _ _ _ _ _ _ _ _ _ _ t (by rcases ht with rfl | rfl | rfl <;> decide)
    have h64g := h64 gold (.inl rfl)
    have h64s := h64 silver (.inr (.inl rfl))
    have h64x := h64 exx (.inr (.inr rfl))
    have bxr : ∀ t, (bxPt b t).row = [I 3, I 0, .sl ((bxPt b t).args.map Tm.row)] := fun t => Tm.row_eq _
    have hdl : (drS l 2 1 (nxA l (nxA l k))).1.length ≤ 2 := by
      have := nxV_range hB (k := nxA l (nxA l k)) (n := 2 + 1) (by decide)
      rw [drS, drL_len]; omega
    have hd1 : ((drS l 2 1 (nxA l (nxA l k))).1.map Tm.row).length ≤ 1000000 := by rw [List.length_map]; omega
    have hd2 := (Tm.rows3 (drS l 2 1 (nxA l (nxA l k))).1 (by omega)).2
    have hdr := fun n => e40r n _ hd1 hd2
    have a1 : acc.length + 1 ≤ 4294967296 := by omega
    have a2 : acc.length + 2 ≤ 4294967296 := by omega
    have hid := h.lt
    have hg1 : 1 ≤ gt.length + 1 := by omega
    have hb2 : bl.length < bl.length + 2 := by omega
    have hb3 : bl.length + 1 < bl.length + 2 := by omega
    have hid2 : id < bl.length + 2 := by omega
    clear cN h64
    simp only [gold, silver, exx] at h64g h64s h64x
    have hx : nxV l k 14 = 0 ∨ nxV l k 14 = 1 ∨ nxV l k 14 = 2 ∨ nxV l k 14 = 3 ∨ nxV l k 14 = 4 ∨ nxV l k 14 = 5 ∨ nxV l k 14 = 6 ∨ nxV l k 14 = 7 ∨ nxV l k 14 = 8 ∨ nxV l k 14 = 9 ∨ nxV l k 14 = 10 ∨ nxV l k 14 = 11 ∨ nxV l k 14 = 12 ∨ nxV l k 14 = 13 := by omega
    have hx4 : nxV l (nxA l (nxA l k)) 4 = 0 ∨ nxV l (nxA l (nxA l k)) 4 = 1 ∨ nxV l (nxA l (nxA l k)) 4 = 2 ∨ nxV l (nxA l (nxA l k)) 4 = 3 := by omega
    have hx2 : nxV l (nxA l k) 2 = 0 ∨ nxV l (nxA l k) 2 = 1 := by omega
    have hx3 : nxV l (nxA l k) 3 = 0 ∨ nxV l (nxA l k) 3 = 1 ∨ nxV l (nxA l k) 3 = 2 := by omega
    clear r14 q4 q4b q20 q2 q3 q18 hs hB
    rcases hx with hx | hx | hx | hx | hx | hx | hx | hx | hx | hx | hx | hx | hx | hx
    · have hp := hpa
      simp only [paF, hx, Int.reduceEq, or_false, false_or, or_true, true_or, if_true, if_false, or_self] at hp
      clear hpa
      rcases hx4 with hx4 | hx4 | hx4 | hx4
      all_goals
        simp only [paNm, hx4, Int.reduceEq, if_true, if_false] at hp
        rcases hv with ⟨rfl, rfl, hr0⟩ | ⟨g, rfl, rfl⟩ <;>
        · refine RL_at hat (by (simp only [go_sem, Nat.max_zero, List.isEmpty_cons, Int.reduceToNat, Nat.reducePow, Int.reduceEq, Int.reduceNe, Int.reduceLT, Int.reduceLE, Nat.reduceAdd, Nat.reduceLeDiff, ↓reduceIte, Nat.reduceLT, Nat.reduceMul, Nat.reduceSub, reduceCtorEq, frzLoc, rowCells, vAppM, beq_iff_eq, bne_iff_ne, bne_self_eq_false, beq_self_eq_true, beq_true, beq_false, I, B, w, cx_len, cx_app, cx_own0, cx_own, cx_setOwn0, cx_setOwn, cx_take, cx_takeN, Nat.add_right_cancel_iff, Nat.lt_irrefl, cx_nlt, Nat.not_lt_zero, cx_get' h, cx_setId' h, cx_er h, cx_all0 h, cx_all h, CtxOk.lt h, CtxOk.ne0 h, hb2, hb3, hid2])) (by (simp only [go_sem, Nat.max_zero, List.isEmpty_cons, Int.reduceToNat, Nat.reducePow, Int.reduceEq, Int.reduceNe, Int.reduceLT, Int.reduceLE, Nat.reduceAdd, Nat.reduceLeDiff, ↓reduceIte, Nat.reduceLT, Nat.reduceMul, Nat.reduceSub, reduceCtorEq, frzLoc, rowCells, vAppM, beq_iff_eq, bne_iff_ne, bne_self_eq_false, beq_self_eq_true, beq_true, beq_false, I, B, w, cx_len, cx_app, cx_own0, cx_own, cx_setOwn0, cx_setOwn, cx_take, cx_takeN, Nat.add_right_cancel_iff, Nat.lt_irrefl, cx_nlt, Nat.not_lt_zero, cx_get' h, cx_setId' h, cx_er h, cx_all0 h, cx_all h, CtxOk.lt h, CtxOk.ne0 h, hgl, hb2, hb3, hid2])) (vf52L0_go ?_)
          (repeat (first
    | refine RX_seq ?_
    | refine RX_block ?_
    | ((first | refine RX_reg ?_ | refine RX_cond' ?_ | refine RX_draw0 ?_ | refine RX_draw rfl ?_ | refine RX_skip ?_ | refine RX_exit ?_ | refine RX_ret ?_); try (simp only [go_sem, Nat.max_zero, List.isEmpty_cons, Int.reduceToNat, Nat.reducePow, Int.reduceEq, Int.reduceNe, Int.reduceLT, Int.reduceLE, Nat.reduceAdd, Nat.reduceLeDiff, ↓reduceIte, Nat.reduceLT, Nat.reduceMul, Nat.reduceSub, reduceCtorEq, frzLoc, rowCells, vAppM, beq_iff_eq, bne_iff_ne, bne_self_eq_false, beq_self_eq_true, beq_true, beq_false, I, B, w, vf52_res, vf52_keep, cx_len, cx_app, cx_own0, cx_own, cx_setOwn0, cx_setOwn, cx_take, cx_takeN, Nat.add_right_cancel_iff, Nat.lt_irrefl, cx_nlt, Nat.not_lt_zero, cx_get' h, cx_setId' h, cx_er h, cx_all0 h, cx_all h, CtxOk.lt h, CtxOk.ne0 h, gt_iff_lt, ge_iff_le, ibeq, hg1, hgc, hgl, c14, c4, c20, c9, c2, c3, c18, c68, c22, m4, m20, m18, ms, hwm, hge, h64g, h64s, h64x, hdr, a1, a2, hid, hb2, hb3, hid2, e75, e70, e77, e85n, e85r, List.length_map, hx, hx4]))))
          refine hp _ _ _ _ (.inr ⟨_, ?_, rfl⟩) ⟨rfl, ?_, rfl, rfl, rfl, rfl⟩ (by simp)
          · first | (rw [List.map_append, hr0]; simp [pT_row, nT_row, gNm_row, nmT_row, bxr, Tm.row_mk, gold, silver, exx]; done) | (rw [List.map_append]; simp [pT_row, nT_row, gNm_row, nmT_row, bxr, Tm.row_mk, gold, silver, exx]; done)
          · (simp only [cx_takeN, List.take_succ_cons, List.take_zero] <;> try rfl)
    · have hp := hpa
      simp only [paF, hx, Int.reduceEq, or_false, false_or, or_true, true_or, if_true, if_false, or_self] at hp
      clear hpa
      rcases hx4 with hx4 | hx4 | hx4 | hx4
      all_goals
        simp only [paNm, hx4, Int.reduceEq, if_true, if_false] at hp
        rcases hv with ⟨rfl, rfl, hr0⟩ | ⟨g, rfl, rfl⟩ <;>
        · refine RL_at hat (by (simp only [go_sem, Nat.max_zero, List.isEmpty_cons, Int.reduceToNat, Nat.reducePow, Int.reduceEq, Int.reduceNe, Int.reduceLT, Int.reduceLE, Nat.reduceAdd, Nat.reduceLeDiff, ↓reduceIte, Nat.reduceLT, Nat.reduceMul, Nat.reduceSub, reduceCtorEq, frzLoc, rowCells, vAppM, beq_iff_eq, bne_iff_ne, bne_self_eq_false, beq_self_eq_true, beq_true, beq_false, I, B, w, cx_len, cx_app, cx_own0, cx_own, cx_setOwn0, cx_setOwn, cx_take, cx_takeN, Nat.add_right_cancel_iff, Nat.lt_irrefl, cx_nlt, Nat.not_lt_zero, cx_get' h, cx_setId' h, cx_er h, cx_all0 h, cx_all h, CtxOk.lt h, CtxOk.ne0 h, hb2, hb3, hid2])) (by (simp only [go_sem, Nat.max_zero, List.isEmpty_cons, Int.reduceToNat, Nat.reducePow, Int.reduceEq, Int.reduceNe, Int.reduceLT, Int.reduceLE, Nat.reduceAdd, Nat.reduceLeDiff, ↓reduceIte, Nat.reduceLT, Nat.reduceMul, Nat.reduceSub, reduceCtorEq, frzLoc, rowCells, vAppM, beq_iff_eq, bne_iff_ne, bne_self_eq_false, beq_self_eq_true, beq_true, beq_false, I, B, w, cx_len, cx_app, cx_own0, cx_own, cx_setOwn0, cx_setOwn, cx_take, cx_takeN, Nat.add_right_cancel_iff, Nat.lt_irrefl, cx_nlt, Nat.not_lt_zero, cx_get' h, cx_setId' h, cx_er h, cx_all0 h, cx_all h, CtxOk.lt h, CtxOk.ne0 h, hgl, hb2, hb3, hid2])) (vf52L0_go ?_)
          (repeat (first
    | refine RX_seq ?_
    | refine RX_block ?_
    | ((first | refine RX_reg ?_ | refine RX_cond' ?_ | refine RX_draw0 ?_ | refine RX_draw rfl ?_ | refine RX_skip ?_ | refine RX_exit ?_ | refine RX_ret ?_); try (simp only [go_sem, Nat.max_zero, List.isEmpty_cons, Int.reduceToNat, Nat.reducePow, Int.reduceEq, Int.reduceNe, Int.reduceLT, Int.reduceLE, Nat.reduceAdd, Nat.reduceLeDiff, ↓reduceIte, Nat.reduceLT, Nat.reduceMul, Nat.reduceSub, reduceCtorEq, frzLoc, rowCells, vAppM, beq_iff_eq, bne_iff_ne, bne_self_eq_false, beq_self_eq_true, beq_true, beq_false, I, B, w, vf52_res, vf52_keep, cx_len, cx_app, cx_own0, cx_own, cx_setOwn0, cx_setOwn, cx_take, cx_takeN, Nat.add_right_cancel_iff, Nat.lt_irrefl, cx_nlt, Nat.not_lt_zero, cx_get' h, cx_setId' h, cx_er h, cx_all0 h, cx_all h, CtxOk.lt h, CtxOk.ne0 h, gt_iff_lt, ge_iff_le, ibeq, hg1, hgc, hgl, c14, c4, c20, c9, c2, c3, c18, c68, c22, m4, m20, m18, ms, hwm, hge, h64g, h64s, h64x, hdr, a1, a2, hid, hb2, hb3, hid2, e75, e70, e77, e85n, e85r, List.length_map, hx, hx4]))))
          refine hp _ _ _ _ (.inr ⟨_, ?_, rfl⟩) ⟨rfl, ?_, rfl, rfl, rfl, rfl⟩ (by simp)
          · first | (rw [List.map_append, hr0]; simp [pT_row, nT_row, gNm_row, nmT_row, bxr, Tm.row_mk, gold, silver, exx]; done) | (rw [List.map_append]; simp [pT_row, nT_row, gNm_row, nmT_row, bxr, Tm.row_mk, gold, silver, exx]; done)
          · (simp only [cx_takeN, List.take_succ_cons, List.take_zero] <;> try rfl)
    · have hp := hpa
      simp only [paF, hx, Int.reduceEq, or_false, false_or, or_true, true_or, if_true, if_false, or_self] at hp
      clear hpa
      rcases hx4 with hx4 | hx4 | hx4 | hx4
      all_goals
        simp only [paNm, hx4, Int.reduceEq, if_true, if_false] at hp
        rcases hv with ⟨rfl, rfl, hr0⟩ | ⟨g, rfl, rfl⟩ <;>
        · refine RL_at hat (by (simp only [go_sem, Nat.max_zero, List.isEmpty_cons, Int.reduceToNat, Nat.reducePow, Int.reduceEq, Int.reduceNe, Int.reduceLT, Int.reduceLE, Nat.reduceAdd, Nat.reduceLeDiff, ↓reduceIte, Nat.reduceLT, Nat.reduceMul, Nat.reduceSub, reduceCtorEq, frzLoc, rowCells, vAppM, beq_iff_eq, bne_iff_ne, bne_self_eq_false, beq_self_eq_true, beq_true, beq_false, I, B, w, cx_len, cx_app, cx_own0, cx_own, cx_setOwn0, cx_setOwn, cx_take, cx_takeN, Nat.add_right_cancel_iff, Nat.lt_irrefl, cx_nlt, Nat.not_lt_zero, cx_get' h, cx_setId' h, cx_er h, cx_all0 h, cx_all h, CtxOk.lt h, CtxOk.ne0 h, hb2, hb3, hid2])) (by (simp only [go_sem, Nat.max_zero, List.isEmpty_cons, Int.reduceToNat, Nat.reducePow, Int.reduceEq, Int.reduceNe, Int.reduceLT, Int.reduceLE, Nat.reduceAdd, Nat.reduceLeDiff, ↓reduceIte, Nat.reduceLT, Nat.reduceMul, Nat.reduceSub, reduceCtorEq, frzLoc, rowCells, vAppM, beq_iff_eq, bne_iff_ne, bne_self_eq_false, beq_self_eq_true, beq_true, beq_false, I, B, w, cx_len, cx_app, cx_own0, cx_own, cx_setOwn0, cx_setOwn, cx_take, cx_takeN, Nat.add_right_cancel_iff, Nat.lt_irrefl, cx_nlt, Nat.not_lt_zero, cx_get' h, cx_setId' h, cx_er h, cx_all0 h, cx_all h, CtxOk.lt h, CtxOk.ne0 h, hgl, hb2, hb3, hid2])) (vf52L0_go ?_)
          (repeat (first
    | refine RX_seq ?_
    | refine RX_block ?_
    | ((first | refine RX_reg ?_ | refine RX_cond' ?_ | refine RX_draw0 ?_ | refine RX_draw rfl ?_ | refine RX_skip ?_ | refine RX_exit ?_ | refine RX_ret ?_); try (simp only [go_sem, Nat.max_zero, List.isEmpty_cons, Int.reduceToNat, Nat.reducePow, Int.reduceEq, Int.reduceNe, Int.reduceLT, Int.reduceLE, Nat.reduceAdd, Nat.reduceLeDiff, ↓reduceIte, Nat.reduceLT, Nat.reduceMul, Nat.reduceSub, reduceCtorEq, frzLoc, rowCells, vAppM, beq_iff_eq, bne_iff_ne, bne_self_eq_false, beq_self_eq_true, beq_true, beq_false, I, B, w, vf52_res, vf52_keep, cx_len, cx_app, cx_own0, cx_own, cx_setOwn0, cx_setOwn, cx_take, cx_takeN, Nat.add_right_cancel_iff, Nat.lt_irrefl, cx_nlt, Nat.not_lt_zero, cx_get' h, cx_setId' h, cx_er h, cx_all0 h, cx_all h, CtxOk.lt h, CtxOk.ne0 h, gt_iff_lt, ge_iff_le, ibeq, hg1, hgc, hgl, c14, c4, c20, c9, c2, c3, c18, c68, c22, m4, m20, m18, ms, hwm, hge, h64g, h64s, h64x, hdr, a1, a2, hid, hb2, hb3, hid2, e75, e70, e77, e85n, e85r, List.length_map, hx, hx4]))))
          refine hp _ _ _ _ (.inr ⟨_, ?_, rfl⟩) ⟨rfl, ?_, rfl, rfl, rfl, rfl⟩ (by simp)
          · first | (rw [List.map_append, hr0]; simp [pT_row, nT_row, gNm_row, nmT_row, bxr, Tm.row_mk, gold, silver, exx]; done) | (rw [List.map_append]; simp [pT_row, nT_row, gNm_row, nmT_row, bxr, Tm.row_mk, gold, silver, exx]; done)
          · (simp only [cx_takeN, List.take_succ_cons, List.take_zero] <;> try rfl)
    · have hp := hpa
      simp only [paF, hx, Int.reduceEq, or_false, false_or, or_true, true_or, if_true, if_false, or_self] at hp
      clear hpa
      rcases hv with ⟨rfl, rfl, hr0⟩ | ⟨g, rfl, rfl⟩ <;>
      · refine RL_at hat (by (simp only [go_sem, Nat.max_zero, List.isEmpty_cons, Int.reduceToNat, Nat.reducePow, Int.reduceEq, Int.reduceNe, Int.reduceLT, Int.reduceLE, Nat.reduceAdd, Nat.reduceLeDiff, ↓reduceIte, Nat.reduceLT, Nat.reduceMul, Nat.reduceSub, reduceCtorEq, frzLoc, rowCells, vAppM, beq_iff_eq, bne_iff_ne, bne_self_eq_false, beq_self_eq_true, beq_true, beq_false, I, B, w, cx_len, cx_app, cx_own0, cx_own, cx_setOwn0, cx_setOwn, cx_take, cx_takeN, Nat.add_right_cancel_iff, Nat.lt_irrefl, cx_nlt, Nat.not_lt_zero, cx_get' h, cx_setId' h, cx_er h, cx_all0 h, cx_all h, CtxOk.lt h, CtxOk.ne0 h, hb2, hb3, hid2])) (by (simp only [go_sem, Nat.max_zero, List.isEmpty_cons, Int.reduceToNat, Nat.reducePow, Int.reduceEq, Int.reduceNe, Int.reduceLT, Int.reduceLE, Nat.reduceAdd, Nat.reduceLeDiff, ↓reduceIte, Nat.reduceLT, Nat.reduceMul, Nat.reduceSub, reduceCtorEq, frzLoc, rowCells, vAppM, beq_iff_eq, bne_iff_ne, bne_self_eq_false, beq_self_eq_true, beq_true, beq_false, I, B, w, cx_len, cx_app, cx_own0, cx_own, cx_setOwn0, cx_setOwn, cx_take, cx_takeN, Nat.add_right_cancel_iff, Nat.lt_irrefl, cx_nlt, Nat.not_lt_zero, cx_get' h, cx_setId' h, cx_er h, cx_all0 h, cx_all h, CtxOk.lt h, CtxOk.ne0 h, hgl, hb2, hb3, hid2])) (vf52L0_go ?_)
        (repeat (first
    | refine RX_seq ?_
    | refine RX_block ?_
    | ((first | refine RX_reg ?_ | refine RX_cond' ?_ | refine RX_draw0 ?_ | refine RX_draw rfl ?_ | refine RX_skip ?_ | refine RX_exit ?_ | refine RX_ret ?_); try (simp only [go_sem, Nat.max_zero, List.isEmpty_cons, Int.reduceToNat, Nat.reducePow, Int.reduceEq, Int.reduceNe, Int.reduceLT, Int.reduceLE, Nat.reduceAdd, Nat.reduceLeDiff, ↓reduceIte, Nat.reduceLT, Nat.reduceMul, Nat.reduceSub, reduceCtorEq, frzLoc, rowCells, vAppM, beq_iff_eq, bne_iff_ne, bne_self_eq_false, beq_self_eq_true, beq_true, beq_false, I, B, w, vf52_res, vf52_keep, cx_len, cx_app, cx_own0, cx_own, cx_setOwn0, cx_setOwn, cx_take, cx_takeN, Nat.add_right_cancel_iff, Nat.lt_irrefl, cx_nlt, Nat.not_lt_zero, cx_get' h, cx_setId' h, cx_er h, cx_all0 h, cx_all h, CtxOk.lt h, CtxOk.ne0 h, gt_iff_lt, ge_iff_le, ibeq, hg1, hgc, hgl, c14, c4, c20, c9, c2, c3, c18, c68, c22, m4, m20, m18, ms, hwm, hge, h64g, h64s, h64x, hdr, a1, a2, hid, hb2, hb3, hid2, e75, e70, e77, e85n, e85r, List.length_map, hx]))))
        refine hp _ _ _ _ (.inr ⟨_, ?_, rfl⟩) ⟨rfl, ?_, rfl, rfl, rfl, rfl⟩ (by simp)
        · first | (rw [List.map_append, hr0]; simp [pT_row, nT_row, gNm_row, nmT_row, bxr, Tm.row_mk, gold, silver, exx]; done) | (rw [List.map_append]; simp [pT_row, nT_row, gNm_row, nmT_row, bxr, Tm.row_mk, gold, silver, exx]; done)
        · (simp only [cx_takeN, List.take_succ_cons, List.take_zero] <;> try rfl)
    · have hp := hpa
      simp only [paF, hx, Int.reduceEq, or_false, false_or, or_true, true_or, if_true, if_false, or_self] at hp
      clear hpa
      rcases hv with ⟨rfl, rfl, hr0⟩ | ⟨g, rfl, rfl⟩ <;>
      · refine RL_at hat (by (simp only [go_sem, Nat.max_zero, List.isEmpty_cons, Int.reduceToNat, Nat.reducePow, Int.reduceEq, Int.reduceNe, Int.reduceLT, Int.reduceLE, Nat.reduceAdd, Nat.reduceLeDiff, ↓reduceIte, Nat.reduceLT, Nat.reduceMul, Nat.reduceSub, reduceCtorEq, frzLoc, rowCells, vAppM, beq_iff_eq, bne_iff_ne, bne_self_eq_false, beq_self_eq_true, beq_true, beq_false, I, B, w, cx_len, cx_app, cx_own0, cx_own, cx_setOwn0, cx_setOwn, cx_take, cx_takeN, Nat.add_right_cancel_iff, Nat.lt_irrefl, cx_nlt, Nat.not_lt_zero, cx_get' h, cx_setId' h, cx_er h, cx_all0 h, cx_all h, CtxOk.lt h, CtxOk.ne0 h, hb2, hb3, hid2])) (by (simp only [go_sem, Nat.max_zero, List.isEmpty_cons, Int.reduceToNat, Nat.reducePow, Int.reduceEq, Int.reduceNe, Int.reduceLT, Int.reduceLE, Nat.reduceAdd, Nat.reduceLeDiff, ↓reduceIte, Nat.reduceLT, Nat.reduceMul, Nat.reduceSub, reduceCtorEq, frzLoc, rowCells, vAppM, beq_iff_eq, bne_iff_ne, bne_self_eq_false, beq_self_eq_true, beq_true, beq_false, I, B, w, cx_len, cx_app, cx_own0, cx_own, cx_setOwn0, cx_setOwn, cx_take, cx_takeN, Nat.add_right_cancel_iff, Nat.lt_irrefl, cx_nlt, Nat.not_lt_zero, cx_get' h, cx_setId' h, cx_er h, cx_all0 h, cx_all h, CtxOk.lt h, CtxOk.ne0 h, hgl, hb2, hb3, hid2])) (vf52L0_go ?_)
        (repeat (first
    | refine RX_seq ?_
    | refine RX_block ?_
    | ((first | refine RX_reg ?_ | refine RX_cond' ?_ | refine RX_draw0 ?_ | refine RX_draw rfl ?_ | refine RX_skip ?_ | refine RX_exit ?_ | refine RX_ret ?_); try (simp only [go_sem, Nat.max_zero, List.isEmpty_cons, Int.reduceToNat, Nat.reducePow, Int.reduceEq, Int.reduceNe, Int.reduceLT, Int.reduceLE, Nat.reduceAdd, Nat.reduceLeDiff, ↓reduceIte, Nat.reduceLT, Nat.reduceMul, Nat.reduceSub, reduceCtorEq, frzLoc, rowCells, vAppM, beq_iff_eq, bne_iff_ne, bne_self_eq_false, beq_self_eq_true, beq_true, beq_false, I, B, w, vf52_res, vf52_keep, cx_len, cx_app, cx_own0, cx_own, cx_setOwn0, cx_setOwn, cx_take, cx_takeN, Nat.add_right_cancel_iff, Nat.lt_irrefl, cx_nlt, Nat.not_lt_zero, cx_get' h, cx_setId' h, cx_er h, cx_all0 h, cx_all h, CtxOk.lt h, CtxOk.ne0 h, gt_iff_lt, ge_iff_le, ibeq, hg1, hgc, hgl, c14, c4, c20, c9, c2, c3, c18, c68, c22, m4, m20, m18, ms, hwm, hge, h64g, h64s, h64x, hdr, a1, a2, hid, hb2, hb3, hid2, e75, e70, e77, e85n, e85r, List.length_map, hx]))))
        refine hp _ _ _ _ (.inr ⟨_, ?_, rfl⟩) ⟨rfl, ?_, rfl, rfl, rfl, rfl⟩ (by simp)
        · first | (rw [List.map_append, hr0]; simp [pT_row, nT_row, gNm_row, nmT_row, bxr, Tm.row_mk, gold, silver, exx]; done) | (rw [List.map_append]; simp [pT_row, nT_row, gNm_row, nmT_row, bxr, Tm.row_mk, gold, silver, exx]; done)
        · (simp only [cx_takeN, List.take_succ_cons, List.take_zero] <;> try rfl)
    · have hp := hpa
      simp only [paF, hx, Int.reduceEq, or_false, false_or, or_true, true_or, if_true, if_false, or_self] at hp
      clear hpa
      rcases hv with ⟨rfl, rfl, hr0⟩ | ⟨g, rfl, rfl⟩ <;>
      · refine RL_at hat (by (simp only [go_sem, Nat.max_zero, List.isEmpty_cons, Int.reduceToNat, Nat.reducePow, Int.reduceEq, Int.reduceNe, Int.reduceLT, Int.reduceLE, Nat.reduceAdd, Nat.reduceLeDiff, ↓reduceIte, Nat.reduceLT, Nat.reduceMul, Nat.reduceSub, reduceCtorEq, frzLoc, rowCells, vAppM, beq_iff_eq, bne_iff_ne, bne_self_eq_false, beq_self_eq_true, beq_true, beq_false, I, B, w, cx_len, cx_app, cx_own0, cx_own, cx_setOwn0, cx_setOwn, cx_take, cx_takeN, Nat.add_right_cancel_iff, Nat.lt_irrefl, cx_nlt, Nat.not_lt_zero, cx_get' h, cx_setId' h, cx_er h, cx_all0 h, cx_all h, CtxOk.lt h, CtxOk.ne0 h, hb2, hb3, hid2])) (by (simp only [go_sem, Nat.max_zero, List.isEmpty_cons, Int.reduceToNat, Nat.reducePow, Int.reduceEq, Int.reduceNe, Int.reduceLT, Int.reduceLE, Nat.reduceAdd, Nat.reduceLeDiff, ↓reduceIte, Nat.reduceLT, Nat.reduceMul, Nat.reduceSub, reduceCtorEq, frzLoc, rowCells, vAppM, beq_iff_eq, bne_iff_ne, bne_self_eq_false, beq_self_eq_true, beq_true, beq_false, I, B, w, cx_len, cx_app, cx_own0, cx_own, cx_setOwn0, cx_setOwn, cx_take, cx_takeN, Nat.add_right_cancel_iff, Nat.lt_irrefl, cx_nlt, Nat.not_lt_zero, cx_get' h, cx_setId' h, cx_er h, cx_all0 h, cx_all h, CtxOk.lt h, CtxOk.ne0 h, hgl, hb2, hb3, hid2])) (vf52L0_go ?_)
        (repeat (first
    | refine RX_seq ?_
    | refine RX_block ?_
    | ((first | refine RX_reg ?_ | refine RX_cond' ?_ | refine RX_draw0 ?_ | refine RX_draw rfl ?_ | refine RX_skip ?_ | refine RX_exit ?_ | refine RX_ret ?_); try (simp only [go_sem, Nat.max_zero, List.isEmpty_cons, Int.reduceToNat, Nat.reducePow, Int.reduceEq, Int.reduceNe, Int.reduceLT, Int.reduceLE, Nat.reduceAdd, Nat.reduceLeDiff, ↓reduceIte, Nat.reduceLT, Nat.reduceMul, Nat.reduceSub, reduceCtorEq, frzLoc, rowCells, vAppM, beq_iff_eq, bne_iff_ne, bne_self_eq_false, beq_self_eq_true, beq_true, beq_false, I, B, w, vf52_res, vf52_keep, cx_len, cx_app, cx_own0, cx_own, cx_setOwn0, cx_setOwn, cx_take, cx_takeN, Nat.add_right_cancel_iff, Nat.lt_irrefl, cx_nlt, Nat.not_lt_zero, cx_get' h, cx_setId' h, cx_er h, cx_all0 h, cx_all h, CtxOk.lt h, CtxOk.ne0 h, gt_iff_lt, ge_iff_le, ibeq, hg1, hgc, hgl, c14, c4, c20, c9, c2, c3, c18, c68, c22, m4, m20, m18, ms, hwm, hge, h64g, h64s, h64x, hdr, a1, a2, hid, hb2, hb3, hid2, e75, e70, e77, e85n, e85r, List.length_map, hx]))))
        refine hp _ _ _ _ (.inr ⟨_, ?_, rfl⟩) ⟨rfl, ?_, rfl, rfl, rfl, rfl⟩ (by simp)
        · first | (rw [List.map_append, hr0]; simp [pT_row, nT_row, gNm_row, nmT_row, bxr, Tm.row_mk, gold, silver, exx]; done) | (rw [List.map_append]; simp [pT_row, nT_row, gNm_row, nmT_row, bxr, Tm.row_mk, gold, silver, exx]; done)
        · (simp only [cx_takeN, List.take_succ_cons, List.take_zero] <;> try rfl)
    · have hp := hpa
      simp only [paF, hx, Int.reduceEq, or_false, false_or, or_true, true_or, if_true, if_false, or_self] at hp
      clear hpa
      rcases hv with ⟨rfl, rfl, hr0⟩ | ⟨g, rfl, rfl⟩ <;>
      · refine RL_at hat (by (simp only [go_sem, Nat.max_zero, List.isEmpty_cons, Int.reduceToNat, Nat.reducePow, Int.reduceEq, Int.reduceNe, Int.reduceLT, Int.reduceLE, Nat.reduceAdd, Nat.reduceLeDiff, ↓reduceIte, Nat.reduceLT, Nat.reduceMul, Nat.reduceSub, reduceCtorEq, frzLoc, rowCells, vAppM, beq_iff_eq, bne_iff_ne, bne_self_eq_false, beq_self_eq_true, beq_true, beq_false, I, B, w, cx_len, cx_app, cx_own0, cx_own, cx_setOwn0, cx_setOwn, cx_take, cx_takeN, Nat.add_right_cancel_iff, Nat.lt_irrefl, cx_nlt, Nat.not_lt_zero, cx_get' h, cx_setId' h, cx_er h, cx_all0 h, cx_all h, CtxOk.lt h, CtxOk.ne0 h, hb2, hb3, hid2])) (by (simp only [go_sem, Nat.max_zero, List.isEmpty_cons, Int.reduceToNat, Nat.reducePow, Int.reduceEq, Int.reduceNe, Int.reduceLT, Int.reduceLE, Nat.reduceAdd, Nat.reduceLeDiff, ↓reduceIte, Nat.reduceLT, Nat.reduceMul, Nat.reduceSub, reduceCtorEq, frzLoc, rowCells, vAppM, beq_iff_eq, bne_iff_ne, bne_self_eq_false, beq_self_eq_true, beq_true, beq_false, I, B, w, cx_len, cx_app, cx_own0, cx_own, cx_setOwn0, cx_setOwn, cx_take, cx_takeN, Nat.add_right_cancel_iff, Nat.lt_irrefl, cx_nlt, Nat.not_lt_zero, cx_get' h, cx_setId' h, cx_er h, cx_all0 h, cx_all h, CtxOk.lt h, CtxOk.ne0 h, hgl, hb2, hb3, hid2])) (vf52L0_go ?_)
        (repeat (first
    | refine RX_seq ?_
    | refine RX_block ?_
    | ((first | refine RX_reg ?_ | refine RX_cond' ?_ | refine RX_draw0 ?_ | refine RX_draw rfl ?_ | refine RX_skip ?_ | refine RX_exit ?_ | refine RX_ret ?_); try (simp only [go_sem, Nat.max_zero, List.isEmpty_cons, Int.reduceToNat, Nat.reducePow, Int.reduceEq, Int.reduceNe, Int.reduceLT, Int.reduceLE, Nat.reduceAdd, Nat.reduceLeDiff, ↓reduceIte, Nat.reduceLT, Nat.reduceMul, Nat.reduceSub, reduceCtorEq, frzLoc, rowCells, vAppM, beq_iff_eq, bne_iff_ne, bne_self_eq_false, beq_self_eq_true, beq_true, beq_false, I, B, w, vf52_res, vf52_keep, cx_len, cx_app, cx_own0, cx_own, cx_setOwn0, cx_setOwn, cx_take, cx_takeN, Nat.add_right_cancel_iff, Nat.lt_irrefl, cx_nlt, Nat.not_lt_zero, cx_get' h, cx_setId' h, cx_er h, cx_all0 h, cx_all h, CtxOk.lt h, CtxOk.ne0 h, gt_iff_lt, ge_iff_le, ibeq, hg1, hgc, hgl, c14, c4, c20, c9, c2, c3, c18, c68, c22, m4, m20, m18, ms, hwm, hge, h64g, h64s, h64x, hdr, a1, a2, hid, hb2, hb3, hid2, e75, e70, e77, e85n, e85r, List.length_map, hx]))))
        refine hp _ _ _ _ (.inr ⟨_, ?_, rfl⟩) ⟨rfl, ?_, rfl, rfl, rfl, rfl⟩ (by simp)
        · first | (rw [List.map_append, hr0]; simp [pT_row, nT_row, gNm_row, nmT_row, bxr, Tm.row_mk, gold, silver, exx]; done) | (rw [List.map_append]; simp [pT_row, nT_row, gNm_row, nmT_row, bxr, Tm.row_mk, gold, silver, exx]; done)
        · (simp only [cx_takeN, List.take_succ_cons, List.take_zero] <;> try rfl)
    · have hp := hpa
      simp only [paF, hx, Int.reduceEq, or_false, false_or, or_true, true_or, if_true, if_false, or_self] at hp
      clear hpa
      rcases hv with ⟨rfl, rfl, hr0⟩ | ⟨g, rfl, rfl⟩ <;>
      · refine RL_at hat (by (simp only [go_sem, Nat.max_zero, List.isEmpty_cons, Int.reduceToNat, Nat.reducePow, Int.reduceEq, Int.reduceNe, Int.reduceLT, Int.reduceLE, Nat.reduceAdd, Nat.reduceLeDiff, ↓reduceIte, Nat.reduceLT, Nat.reduceMul, Nat.reduceSub, reduceCtorEq, frzLoc, rowCells, vAppM, beq_iff_eq, bne_iff_ne, bne_self_eq_false, beq_self_eq_true, beq_true, beq_false, I, B, w, cx_len, cx_app, cx_own0, cx_own, cx_setOwn0, cx_setOwn, cx_take, cx_takeN, Nat.add_right_cancel_iff, Nat.lt_irrefl, cx_nlt, Nat.not_lt_zero, cx_get' h, cx_setId' h, cx_er h, cx_all0 h, cx_all h, CtxOk.lt h, CtxOk.ne0 h, hb2, hb3, hid2])) (by (simp only [go_sem, Nat.max_zero, List.isEmpty_cons, Int.reduceToNat, Nat.reducePow, Int.reduceEq, Int.reduceNe, Int.reduceLT, Int.reduceLE, Nat.reduceAdd, Nat.reduceLeDiff, ↓reduceIte, Nat.reduceLT, Nat.reduceMul, Nat.reduceSub, reduceCtorEq, frzLoc, rowCells, vAppM, beq_iff_eq, bne_iff_ne, bne_self_eq_false, beq_self_eq_true, beq_true, beq_false, I, B, w, cx_len, cx_app, cx_own0, cx_own, cx_setOwn0, cx_setOwn, cx_take, cx_takeN, Nat.add_right_cancel_iff, Nat.lt_irrefl, cx_nlt, Nat.not_lt_zero, cx_get' h, cx_setId' h, cx_er h, cx_all0 h, cx_all h, CtxOk.lt h, CtxOk.ne0 h, hgl, hb2, hb3, hid2])) (vf52L0_go ?_)
        (repeat (first
    | refine RX_seq ?_
    | refine RX_block ?_
    | ((first | refine RX_reg ?_ | refine RX_cond' ?_ | refine RX_draw0 ?_ | refine RX_draw rfl ?_ | refine RX_skip ?_ | refine RX_exit ?_ | refine RX_ret ?_); try (simp only [go_sem, Nat.max_zero, List.isEmpty_cons, Int.reduceToNat, Nat.reducePow, Int.reduceEq, Int.reduceNe, Int.reduceLT, Int.reduceLE, Nat.reduceAdd, Nat.reduceLeDiff, ↓reduceIte, Nat.reduceLT, Nat.reduceMul, Nat.reduceSub, reduceCtorEq, frzLoc, rowCells, vAppM, beq_iff_eq, bne_iff_ne, bne_self_eq_false, beq_self_eq_true, beq_true, beq_false, I, B, w, vf52_res, vf52_keep, cx_len, cx_app, cx_own0, cx_own, cx_setOwn0, cx_setOwn, cx_take, cx_takeN, Nat.add_right_cancel_iff, Nat.lt_irrefl, cx_nlt, Nat.not_lt_zero, cx_get' h, cx_setId' h, cx_er h, cx_all0 h, cx_all h, CtxOk.lt h, CtxOk.ne0 h, gt_iff_lt, ge_iff_le, ibeq, hg1, hgc, hgl, c14, c4, c20, c9, c2, c3, c18, c68, c22, m4, m20, m18, ms, hwm, hge, h64g, h64s, h64x, hdr, a1, a2, hid, hb2, hb3, hid2, e75, e70, e77, e85n, e85r, List.length_map, hx]))))
        refine hp _ _ _ _ (.inr ⟨_, ?_, rfl⟩) ⟨rfl, ?_, rfl, rfl, rfl, rfl⟩ (by simp)
        · first | (rw [List.map_append, hr0]; simp [pT_row, nT_row, gNm_row, nmT_row, bxr, Tm.row_mk, gold, silver, exx]; done) | (rw [List.map_append]; simp [pT_row, nT_row, gNm_row, nmT_row, bxr, Tm.row_mk, gold, silver, exx]; done)
        · (simp only [cx_takeN, List.take_succ_cons, List.take_zero] <;> try rfl)
    · have hp := hpa
      simp only [paF, hx, Int.reduceEq, or_false, false_or, or_true, true_or, if_true, if_false, or_self] at hp
      clear hpa
      rcases hv with ⟨rfl, rfl, hr0⟩ | ⟨g, rfl, rfl⟩ <;>
      · refine RL_at hat (by (simp only [go_sem, Nat.max_zero, List.isEmpty_cons, Int.reduceToNat, Nat.reducePow, Int.reduceEq, Int.reduceNe, Int.reduceLT, Int.reduceLE, Nat.reduceAdd, Nat.reduceLeDiff, ↓reduceIte, Nat.reduceLT, Nat.reduceMul, Nat.reduceSub, reduceCtorEq, frzLoc, rowCells, vAppM, beq_iff_eq, bne_iff_ne, bne_self_eq_false, beq_self_eq_true, beq_true, beq_false, I, B, w, cx_len, cx_app, cx_own0, cx_own, cx_setOwn0, cx_setOwn, cx_take, cx_takeN, Nat.add_right_cancel_iff, Nat.lt_irrefl, cx_nlt, Nat.not_lt_zero, cx_get' h, cx_setId' h, cx_er h, cx_all0 h, cx_all h, CtxOk.lt h, CtxOk.ne0 h, hb2, hb3, hid2])) (by (simp only [go_sem, Nat.max_zero, List.isEmpty_cons, Int.reduceToNat, Nat.reducePow, Int.reduceEq, Int.reduceNe, Int.reduceLT, Int.reduceLE, Nat.reduceAdd, Nat.reduceLeDiff, ↓reduceIte, Nat.reduceLT, Nat.reduceMul, Nat.reduceSub, reduceCtorEq, frzLoc, rowCells, vAppM, beq_iff_eq, bne_iff_ne, bne_self_eq_false, beq_self_eq_true, beq_true, beq_false, I, B, w, cx_len, cx_app, cx_own0, cx_own, cx_setOwn0, cx_setOwn, cx_take, cx_takeN, Nat.add_right_cancel_iff, Nat.lt_irrefl, cx_nlt, Nat.not_lt_zero, cx_get' h, cx_setId' h, cx_er h, cx_all0 h, cx_all h, CtxOk.lt h, CtxOk.ne0 h, hgl, hb2, hb3, hid2])) (vf52L0_go ?_)
        (repeat (first
    | refine RX_seq ?_
    | refine RX_block ?_
    | ((first | refine RX_reg ?_ | refine RX_cond' ?_ | refine RX_draw0 ?_ | refine RX_draw rfl ?_ | refine RX_skip ?_ | refine RX_exit ?_ | refine RX_ret ?_); try (simp only [go_sem, Nat.max_zero, List.isEmpty_cons, Int.reduceToNat, Nat.reducePow, Int.reduceEq, Int.reduceNe, Int.reduceLT, Int.reduceLE, Nat.reduceAdd, Nat.reduceLeDiff, ↓reduceIte, Nat.reduceLT, Nat.reduceMul, Nat.reduceSub, reduceCtorEq, frzLoc, rowCells, vAppM, beq_iff_eq, bne_iff_ne, bne_self_eq_false, beq_self_eq_true, beq_true, beq_false, I, B, w, vf52_res, vf52_keep, cx_len, cx_app, cx_own0, cx_own, cx_setOwn0, cx_setOwn, cx_take, cx_takeN, Nat.add_right_cancel_iff, Nat.lt_irrefl, cx_nlt, Nat.not_lt_zero, cx_get' h, cx_setId' h, cx_er h, cx_all0 h, cx_all h, CtxOk.lt h, CtxOk.ne0 h, gt_iff_lt, ge_iff_le, ibeq, hg1, hgc, hgl, c14, c4, c20, c9, c2, c3, c18, c68, c22, m4, m20, m18, ms, hwm, hge, h64g, h64s, h64x, hdr, a1, a2, hid, hb2, hb3, hid2, e75, e70, e77, e85n, e85r, List.length_map, hx]))))
        refine hp _ _ _ _ (.inr ⟨_, ?_, rfl⟩) ⟨rfl, ?_, rfl, rfl, rfl, rfl⟩ (by simp)
        · first | (rw [List.map_append, hr0]; simp [pT_row, nT_row, gNm_row, nmT_row, bxr, Tm.row_mk, gold, silver, exx]; done) | (rw [List.map_append]; simp [pT_row, nT_row, gNm_row, nmT_row, bxr, Tm.row_mk, gold, silver, exx]; done)
        · (simp only [cx_takeN, List.take_succ_cons, List.take_zero] <;> try rfl)
    · have hp := hpa
      simp only [paF, hx, Int.reduceEq, or_false, false_or, or_true, true_or, if_true, if_false, or_self] at hp
      clear hpa
      rcases hv with ⟨rfl, rfl, hr0⟩ | ⟨g, rfl, rfl⟩ <;>
      · refine RL_at hat (by (simp only [go_sem, Nat.max_zero, List.isEmpty_cons, Int.reduceToNat, Nat.reducePow, Int.reduceEq, Int.reduceNe, Int.reduceLT, Int.reduceLE, Nat.reduceAdd, Nat.reduceLeDiff, ↓reduceIte, Nat.reduceLT, Nat.reduceMul, Nat.reduceSub, reduceCtorEq, frzLoc, rowCells, vAppM, beq_iff_eq, bne_iff_ne, bne_self_eq_false, beq_self_eq_true, beq_true, beq_false, I, B, w, cx_len, cx_app, cx_own0, cx_own, cx_setOwn0, cx_setOwn, cx_take, cx_takeN, Nat.add_right_cancel_iff, Nat.lt_irrefl, cx_nlt, Nat.not_lt_zero, cx_get' h, cx_setId' h, cx_er h, cx_all0 h, cx_all h, CtxOk.lt h, CtxOk.ne0 h, hb2, hb3, hid2])) (by (simp only [go_sem, Nat.max_zero, List.isEmpty_cons, Int.reduceToNat, Nat.reducePow, Int.reduceEq, Int.reduceNe, Int.reduceLT, Int.reduceLE, Nat.reduceAdd, Nat.reduceLeDiff, ↓reduceIte, Nat.reduceLT, Nat.reduceMul, Nat.reduceSub, reduceCtorEq, frzLoc, rowCells, vAppM, beq_iff_eq, bne_iff_ne, bne_self_eq_false, beq_self_eq_true, beq_true, beq_false, I, B, w, cx_len, cx_app, cx_own0, cx_own, cx_setOwn0, cx_setOwn, cx_take, cx_takeN, Nat.add_right_cancel_iff, Nat.lt_irrefl, cx_nlt, Nat.not_lt_zero, cx_get' h, cx_setId' h, cx_er h, cx_all0 h, cx_all h, CtxOk.lt h, CtxOk.ne0 h, hgl, hb2, hb3, hid2])) (vf52L0_go ?_)
        (repeat (first
    | refine RX_seq ?_
    | refine RX_block ?_
    | ((first | refine RX_reg ?_ | refine RX_cond' ?_ | refine RX_draw0 ?_ | refine RX_draw rfl ?_ | refine RX_skip ?_ | refine RX_exit ?_ | refine RX_ret ?_); try (simp only [go_sem, Nat.max_zero, List.isEmpty_cons, Int.reduceToNat, Nat.reducePow, Int.reduceEq, Int.reduceNe, Int.reduceLT, Int.reduceLE, Nat.reduceAdd, Nat.reduceLeDiff, ↓reduceIte, Nat.reduceLT, Nat.reduceMul, Nat.reduceSub, reduceCtorEq, frzLoc, rowCells, vAppM, beq_iff_eq, bne_iff_ne, bne_self_eq_false, beq_self_eq_true, beq_true, beq_false, I, B, w, vf52_res, vf52_keep, cx_len, cx_app, cx_own0, cx_own, cx_setOwn0, cx_setOwn, cx_take, cx_takeN, Nat.add_right_cancel_iff, Nat.lt_irrefl, cx_nlt, Nat.not_lt_zero, cx_get' h, cx_setId' h, cx_er h, cx_all0 h, cx_all h, CtxOk.lt h, CtxOk.ne0 h, gt_iff_lt, ge_iff_le, ibeq, hg1, hgc, hgl, c14, c4, c20, c9, c2, c3, c18, c68, c22, m4, m20, m18, ms, hwm, hge, h64g, h64s, h64x, hdr, a1, a2, hid, hb2, hb3, hid2, e75, e70, e77, e85n, e85r, List.length_map, hx]))))
        refine hp _ _ _ _ (.inr ⟨_, ?_, rfl⟩) ⟨rfl, ?_, rfl, rfl, rfl, rfl⟩ (by simp)
        · first | (rw [List.map_append, hr0]; simp [pT_row, nT_row, gNm_row, nmT_row, bxr, Tm.row_mk, gold, silver, exx]; done) | (rw [List.map_append]; simp [pT_row, nT_row, gNm_row, nmT_row, bxr, Tm.row_mk, gold, silver, exx]; done)
        · (simp only [cx_takeN, List.take_succ_cons, List.take_zero] <;> try rfl)
    · have hp := hpa
      simp only [paF, hx, Int.reduceEq, or_false, false_or, or_true, true_or, if_true, if_false, or_self] at hp
      clear hpa
      rcases hx2 with hx2 | hx2
      all_goals
        simp only [paNm, hx2, Int.reduceEq, if_true, if_false] at hp
        rcases hv with ⟨rfl, rfl, hr0⟩ | ⟨g, rfl, rfl⟩ <;>
        · refine RL_at hat (by (simp only [go_sem, Nat.max_zero, List.isEmpty_cons, Int.reduceToNat, Nat.reducePow, Int.reduceEq, Int.reduceNe, Int.reduceLT, Int.reduceLE, Nat.reduceAdd, Nat.reduceLeDiff, ↓reduceIte, Nat.reduceLT, Nat.reduceMul, Nat.reduceSub, reduceCtorEq, frzLoc, rowCells, vAppM, beq_iff_eq, bne_iff_ne, bne_self_eq_false, beq_self_eq_true, beq_true, beq_false, I, B, w, cx_len, cx_app, cx_own0, cx_own, cx_setOwn0, cx_setOwn, cx_take, cx_takeN, Nat.add_right_cancel_iff, Nat.lt_irrefl, cx_nlt, Nat.not_lt_zero, cx_get' h, cx_setId' h, cx_er h, cx_all0 h, cx_all h, CtxOk.lt h, CtxOk.ne0 h, hb2, hb3, hid2])) (by (simp only [go_sem, Nat.max_zero, List.isEmpty_cons, Int.reduceToNat, Nat.reducePow, Int.reduceEq, Int.reduceNe, Int.reduceLT, Int.reduceLE, Nat.reduceAdd, Nat.reduceLeDiff, ↓reduceIte, Nat.reduceLT, Nat.reduceMul, Nat.reduceSub, reduceCtorEq, frzLoc, rowCells, vAppM, beq_iff_eq, bne_iff_ne, bne_self_eq_false, beq_self_eq_true, beq_true, beq_false, I, B, w, cx_len, cx_app, cx_own0, cx_own, cx_setOwn0, cx_setOwn, cx_take, cx_takeN, Nat.add_right_cancel_iff, Nat.lt_irrefl, cx_nlt, Nat.not_lt_zero, cx_get' h, cx_setId' h, cx_er h, cx_all0 h, cx_all h, CtxOk.lt h, CtxOk.ne0 h, hgl, hb2, hb3, hid2])) (vf52L0_go ?_)
          (repeat (first
    | refine RX_seq ?_
    | refine RX_block ?_
    | ((first | refine RX_reg ?_ | refine RX_cond' ?_ | refine RX_draw0 ?_ | refine RX_draw rfl ?_ | refine RX_skip ?_ | refine RX_exit ?_ | refine RX_ret ?_); try (simp only [go_sem, Nat.max_zero, List.isEmpty_cons, Int.reduceToNat, Nat.reducePow, Int.reduceEq, Int.reduceNe, Int.reduceLT, Int.reduceLE, Nat.reduceAdd, Nat.reduceLeDiff, ↓reduceIte, Nat.reduceLT, Nat.reduceMul, Nat.reduceSub, reduceCtorEq, frzLoc, rowCells, vAppM, beq_iff_eq, bne_iff_ne, bne_self_eq_false, beq_self_eq_true, beq_true, beq_false, I, B, w, vf52_res, vf52_keep, cx_len, cx_app, cx_own0, cx_own, cx_setOwn0, cx_setOwn, cx_take, cx_takeN, Nat.add_right_cancel_iff, Nat.lt_irrefl, cx_nlt, Nat.not_lt_zero, cx_get' h, cx_setId' h, cx_er h, cx_all0 h, cx_all h, CtxOk.lt h, CtxOk.ne0 h, gt_iff_lt, ge_iff_le, ibeq, hg1, hgc, hgl, c14, c4, c20, c9, c2, c3, c18, c68, c22, m4, m20, m18, ms, hwm, hge, h64g, h64s, h64x, hdr, a1, a2, hid, hb2, hb3, hid2, e75, e70, e77, e85n, e85r, List.length_map, hx, hx2]))))
          refine hp _ _ _ _ (.inr ⟨_, ?_, rfl⟩) ⟨rfl, ?_, rfl, rfl, rfl, rfl⟩ (by simp)
          · first | (rw [List.map_append, hr0]; simp [pT_row, nT_row, gNm_row, nmT_row, bxr, Tm.row_mk, gold, silver, exx]; done) | (rw [List.map_append]; simp [pT_row, nT_row, gNm_row, nmT_row, bxr, Tm.row_mk, gold, silver, exx]; done)
          · (simp only [cx_takeN, List.take_succ_cons, List.take_zero] <;> try rfl)
    · have hp := hpa
      simp only [paF, hx, Int.reduceEq, or_false, false_or, or_true, true_or, if_true, if_false, or_self] at hp
      clear hpa
      rcases hv with ⟨rfl, rfl, hr0⟩ | ⟨g, rfl, rfl⟩ <;>
      · refine RL_at hat (by (simp only [go_sem, Nat.max_zero, List.isEmpty_cons, Int.reduceToNat, Nat.reducePow, Int.reduceEq, Int.reduceNe, Int.reduceLT, Int.reduceLE, Nat.reduceAdd, Nat.reduceLeDiff, ↓reduceIte, Nat.reduceLT, Nat.reduceMul, Nat.reduceSub, reduceCtorEq, frzLoc, rowCells, vAppM, beq_iff_eq, bne_iff_ne, bne_self_eq_false, beq_self_eq_true, beq_true, beq_false, I, B, w, cx_len, cx_app, cx_own0, cx_own, cx_setOwn0, cx_setOwn, cx_take, cx_takeN, Nat.add_right_cancel_iff, Nat.lt_irrefl, cx_nlt, Nat.not_lt_zero, cx_get' h, cx_setId' h, cx_er h, cx_all0 h, cx_all h, CtxOk.lt h, CtxOk.ne0 h, hb2, hb3, hid2])) (by (simp only [go_sem, Nat.max_zero, List.isEmpty_cons, Int.reduceToNat, Nat.reducePow, Int.reduceEq, Int.reduceNe, Int.reduceLT, Int.reduceLE, Nat.reduceAdd, Nat.reduceLeDiff, ↓reduceIte, Nat.reduceLT, Nat.reduceMul, Nat.reduceSub, reduceCtorEq, frzLoc, rowCells, vAppM, beq_iff_eq, bne_iff_ne, bne_self_eq_false, beq_self_eq_true, beq_true, beq_false, I, B, w, cx_len, cx_app, cx_own0, cx_own, cx_setOwn0, cx_setOwn, cx_take, cx_takeN, Nat.add_right_cancel_iff, Nat.lt_irrefl, cx_nlt, Nat.not_lt_zero, cx_get' h, cx_setId' h, cx_er h, cx_all0 h, cx_all h, CtxOk.lt h, CtxOk.ne0 h, hgl, hb2, hb3, hid2])) (vf52L0_go ?_)
        (repeat (first
    | refine RX_seq ?_
    | refine RX_block ?_
    | ((first | refine RX_reg ?_ | refine RX_cond' ?_ | refine RX_draw0 ?_ | refine RX_draw rfl ?_ | refine RX_skip ?_ | refine RX_exit ?_ | refine RX_ret ?_); try (simp only [go_sem, Nat.max_zero, List.isEmpty_cons, Int.reduceToNat, Nat.reducePow, Int.reduceEq, Int.reduceNe, Int.reduceLT, Int.reduceLE, Nat.reduceAdd, Nat.reduceLeDiff, ↓reduceIte, Nat.reduceLT, Nat.reduceMul, Nat.reduceSub, reduceCtorEq, frzLoc, rowCells, vAppM, beq_iff_eq, bne_iff_ne, bne_self_eq_false, beq_self_eq_true, beq_true, beq_false, I, B, w, vf52_res, vf52_keep, cx_len, cx_app, cx_own0, cx_own, cx_setOwn0, cx_setOwn, cx_take, cx_takeN, Nat.add_right_cancel_iff, Nat.lt_irrefl, cx_nlt, Nat.not_lt_zero, cx_get' h, cx_setId' h, cx_er h, cx_all0 h, cx_all h, CtxOk.lt h, CtxOk.ne0 h, gt_iff_lt, ge_iff_le, ibeq, hg1, hgc, hgl, c14, c4, c20, c9, c2, c3, c18, c68, c22, m4, m20, m18, ms, hwm, hge, h64g, h64s, h64x, hdr, a1, a2, hid, hb2, hb3, hid2, e75, e70, e77, e85n, e85r, List.length_map, hx]))))
        refine hp _ _ _ _ (.inr ⟨_, ?_, rfl⟩) ⟨rfl, ?_, rfl, rfl, rfl, rfl⟩ (by simp)
        · first | (rw [List.map_append, hr0]; simp [pT_row, nT_row, gNm_row, nmT_row, bxr, Tm.row_mk, gold, silver, exx]; done) | (rw [List.map_append]; simp [pT_row, nT_row, gNm_row, nmT_row, bxr, Tm.row_mk, gold, silver, exx]; done)
        · (simp only [cx_takeN, List.take_succ_cons, List.take_zero] <;> try rfl)
    · have hp := hpa
      simp only [paF, hx, Int.reduceEq, or_false, false_or, or_true, true_or, if_true, if_false, or_self] at hp
      clear hpa
      rcases hx3 with hx3 | hx3 | hx3
      all_goals
        simp only [paNm, hx3, Int.reduceEq, if_true, if_false] at hp
        rcases hv with ⟨rfl, rfl, hr0⟩ | ⟨g, rfl, rfl⟩ <;>
        · refine RL_at hat (by (simp only [go_sem, Nat.max_zero, List.isEmpty_cons, Int.reduceToNat, Nat.reducePow, Int.reduceEq, Int.reduceNe, Int.reduceLT, Int.reduceLE, Nat.reduceAdd, Nat.reduceLeDiff, ↓reduceIte, Nat.reduceLT, Nat.reduceMul, Nat.reduceSub, reduceCtorEq, frzLoc, rowCells, vAppM, beq_iff_eq, bne_iff_ne, bne_self_eq_false, beq_self_eq_true, beq_true, beq_false, I, B, w, cx_len, cx_app, cx_own0, cx_own, cx_setOwn0, cx_setOwn, cx_take, cx_takeN, Nat.add_right_cancel_iff, Nat.lt_irrefl, cx_nlt, Nat.not_lt_zero, cx_get' h, cx_setId' h, cx_er h, cx_all0 h, cx_all h, CtxOk.lt h, CtxOk.ne0 h, hb2, hb3, hid2])) (by (simp only [go_sem, Nat.max_zero, List.isEmpty_cons, Int.reduceToNat, Nat.reducePow, Int.reduceEq, Int.reduceNe, Int.reduceLT, Int.reduceLE, Nat.reduceAdd, Nat.reduceLeDiff, ↓reduceIte, Nat.reduceLT, Nat.reduceMul, Nat.reduceSub, reduceCtorEq, frzLoc, rowCells, vAppM, beq_iff_eq, bne_iff_ne, bne_self_eq_false, beq_self_eq_true, beq_true, beq_false, I, B, w, cx_len, cx_app, cx_own0, cx_own, cx_setOwn0, cx_setOwn, cx_take, cx_takeN, Nat.add_right_cancel_iff, Nat.lt_irrefl, cx_nlt, Nat.not_lt_zero, cx_get' h, cx_setId' h, cx_er h, cx_all0 h, cx_all h, CtxOk.lt h, CtxOk.ne0 h, hgl, hb2, hb3, hid2])) (vf52L0_go ?_)
          (repeat (first
    | refine RX_seq ?_
    | refine RX_block ?_
    | ((first | refine RX_reg ?_ | refine RX_cond' ?_ | refine RX_draw0 ?_ | refine RX_draw rfl ?_ | refine RX_skip ?_ | refine RX_exit ?_ | refine RX_ret ?_); try (simp only [go_sem, Nat.max_zero, List.isEmpty_cons, Int.reduceToNat, Nat.reducePow, Int.reduceEq, Int.reduceNe, Int.reduceLT, Int.reduceLE, Nat.reduceAdd, Nat.reduceLeDiff, ↓reduceIte, Nat.reduceLT, Nat.reduceMul, Nat.reduceSub, reduceCtorEq, frzLoc, rowCells, vAppM, beq_iff_eq, bne_iff_ne, bne_self_eq_false, beq_self_eq_true, beq_true, beq_false, I, B, w, vf52_res, vf52_keep, cx_len, cx_app, cx_own0, cx_own, cx_setOwn0, cx_setOwn, cx_take, cx_takeN, Nat.add_right_cancel_iff, Nat.lt_irrefl, cx_nlt, Nat.not_lt_zero, cx_get' h, cx_setId' h, cx_er h, cx_all0 h, cx_all h, CtxOk.lt h, CtxOk.ne0 h, gt_iff_lt, ge_iff_le, ibeq, hg1, hgc, hgl, c14, c4, c20, c9, c2, c3, c18, c68, c22, m4, m20, m18, ms, hwm, hge, h64g, h64s, h64x, hdr, a1, a2, hid, hb2, hb3, hid2, e75, e70, e77, e85n, e85r, List.length_map, hx, hx3]))))
          refine hp _ _ _ _ (.inr ⟨_, ?_, rfl⟩) ⟨rfl, ?_, rfl, rfl, rfl, rfl⟩ (by simp)
          · first | (rw [List.map_append, hr0]; simp [pT_row, nT_row, gNm_row, nmT_row, bxr, Tm.row_mk, gold, silver, exx]; done) | (rw [List.map_append]; simp [pT_row, nT_row, gNm_row, nmT_row, bxr, Tm.row_mk, gold, silver, exx]; done)
          · (simp only [cx_takeN, List.take_succ_cons, List.take_zero] <;> try rfl)
    · have hp := hpa
      simp only [paF, hx, Int.reduceEq, or_false, false_or, or_true, true_or, if_true, if_false, or_self] at hp
      clear hpa
      rcases hv with ⟨rfl, rfl, hr0⟩ | ⟨g, rfl, rfl⟩ <;>
      · refine RL_at hat (by (simp only [go_sem, Nat.max_zero, List.isEmpty_cons, Int.reduceToNat, Nat.reducePow, Int.reduceEq, Int.reduceNe, Int.reduceLT, Int.reduceLE, Nat.reduceAdd, Nat.reduceLeDiff, ↓reduceIte, Nat.reduceLT, Nat.reduceMul, Nat.reduceSub, reduceCtorEq, frzLoc, rowCells, vAppM, beq_iff_eq, bne_iff_ne, bne_self_eq_false, beq_self_eq_true, beq_true, beq_false, I, B, w, cx_len, cx_app, cx_own0, cx_own, cx_setOwn0, cx_setOwn, cx_take, cx_takeN, Nat.add_right_cancel_iff, Nat.lt_irrefl, cx_nlt, Nat.not_lt_zero, cx_get' h, cx_setId' h, cx_er h, cx_all0 h, cx_all h, CtxOk.lt h, CtxOk.ne0 h, hb2, hb3, hid2])) (by (simp only [go_sem, Nat.max_zero, List.isEmpty_cons, Int.reduceToNat, Nat.reducePow, Int.reduceEq, Int.reduceNe, Int.reduceLT, Int.reduceLE, Nat.reduceAdd, Nat.reduceLeDiff, ↓reduceIte, Nat.reduceLT, Nat.reduceMul, Nat.reduceSub, reduceCtorEq, frzLoc, rowCells, vAppM, beq_iff_eq, bne_iff_ne, bne_self_eq_false, beq_self_eq_true, beq_true, beq_false, I, B, w, cx_len, cx_app, cx_own0, cx_own, cx_setOwn0, cx_setOwn, cx_take, cx_takeN, Nat.add_right_cancel_iff, Nat.lt_irrefl, cx_nlt, Nat.not_lt_zero, cx_get' h, cx_setId' h, cx_er h, cx_all0 h, cx_all h, CtxOk.lt h, CtxOk.ne0 h, hgl, hb2, hb3, hid2])) (vf52L0_go ?_)
        (repeat (first
    | refine RX_seq ?_
    | refine RX_block ?_
    | ((first | refine RX_reg ?_ | refine RX_cond' ?_ | refine RX_draw0 ?_ | refine RX_draw rfl ?_ | refine RX_skip ?_ | refine RX_exit ?_ | refine RX_ret ?_); try (simp only [go_sem, Nat.max_zero, List.isEmpty_cons, Int.reduceToNat, Nat.reducePow, Int.reduceEq, Int.reduceNe, Int.reduceLT, Int.reduceLE, Nat.reduceAdd, Nat.reduceLeDiff, ↓reduceIte, Nat.reduceLT, Nat.reduceMul, Nat.reduceSub, reduceCtorEq, frzLoc, rowCells, vAppM, beq_iff_eq, bne_iff_ne, bne_self_eq_false, beq_self_eq_true, beq_true, beq_false, I, B, w, vf52_res, vf52_keep, cx_len, cx_app, cx_own0, cx_own, cx_setOwn0, cx_setOwn, cx_take, cx_takeN, Nat.add_right_cancel_iff, Nat.lt_irrefl, cx_nlt, Nat.not_lt_zero, cx_get' h, cx_setId' h, cx_er h, cx_all0 h, cx_all h, CtxOk.lt h, CtxOk.ne0 h, gt_iff_lt, ge_iff_le, ibeq, hg1, hgc, hgl, c14, c4, c20, c9, c2, c3, c18, c68, c22, m4, m20, m18, ms, hwm, hge, h64g, h64s, h64x, hdr, a1, a2, hid, hb2, hb3, hid2, e75, e70, e77, e85n, e85r, List.length_map, hx]))))
        refine hp _ _ _ _ (.inr ⟨_, ?_, rfl⟩) ⟨rfl, ?_, rfl, rfl, rfl, rfl⟩ (by simp)
        · first | (rw [List.map_append, hr0]; simp [pT_row, nT_row, gNm_row, nmT_row, bxr, Tm.row_mk, gold, silver, exx]; done) | (rw [List.map_append]; simp [pT_row, nT_row, gNm_row, nmT_row, bxr, Tm.row_mk, gold, silver, exx]; done)
        · (simp only [cx_takeN, List.take_succ_cons, List.take_zero] <;> try rfl)
end Go.Proofs.Ytjhfakhmflemmaa
