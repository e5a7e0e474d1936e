/- Drawn boxes on the machine. Conditions: none. -/
import Derived.Test.YtjhfakhmflemmaaVd
import Derived.Test.YtjhfakhmflemmaaBla
set_option linter.unusedSimpArgs false
namespace Go.Proofs.Ytjhfakhmflemmaa
open Go.VM
theorem e29b {l : List Int} (hB : Bytes l) (id k : Nat) {n : Int} (hn : 0 < n) (hn2 : n ≤ 256) : ∀ bl, CtxOk bl id →
    CV VP 17 [.ptr id 0, .d (I n)] (cx bl id l (k : Nat) []) = some ⟨.d (I (nxV l k n)), cx bl id l (nxA l k : Nat) [], [], 0⟩ := by
  intro bl h
  refine CV_run (vf := vf17) rfl rfl ?_
  rw [vf17_start]
  by_cases hk : k < l.length
  · have hk2 : ¬ ((k : Int) ≥ (l.length : Int)) := by omega
    have hz := List.getElem?_eq_getElem hk
    have hzb := hB.mem _ (List.getElem_mem hk)
    have hv : nxV l k n = l[k] * n / 256 := by rw [nxV, dif_pos hk]
    have ha : nxA l k = k + 1 := by rw [nxA, if_pos hk]
    rw [hv, ha]
    generalize l[k] = z at hz hzb
    have hzn : 0 ≤ z * n ∧ z * n ≤ 65280 := ⟨Int.mul_nonneg hzb.1 (by omega), by
      calc z * n ≤ 255 * 256 := Int.mul_le_mul hzb.2 hn2 (by omega) (by decide)
        _ = 65280 := by decide⟩
    have w1 := w_nat (Nat.lt_trans hk hB.len)
    have w2 : IntKind.i64.wrap (((k + 1 : Nat) : Int) - 1) = (k : Int) := by rw [w_in (by omega) (by have := hB.len; omega)]; omega
    have w3 : IntKind.i64.wrap z = z := w_in (by omega) (by omega)
    have w4 : IntKind.i64.wrap (z * n) = z * n := w_in (by omega) (by omega)
    have w5 : IntKind.i64.wrap ((z * n).tdiv 256) = z * n / 256 := by
      rw [Int.tdiv_eq_ediv_of_nonneg hzn.1, w_in (by omega) (by omega)]
    (repeat (first
    | refine RX_seq ?_
    | refine RX_block ?_
    | ((first | refine RX_reg ?_ | refine RX_cond' ?_ | refine RX_draw0 ?_ | refine RX_draw rfl ?_ | refine RX_skip ?_ | refine RX_gfrz ?_ | refine RX_exit ?_ | refine RX_ret ?_); try (simp only [go_sem, Nat.max_zero, List.isEmpty_cons, Int.reduceToNat, Nat.reducePow, Int.reduceEq, Int.reduceNe, Int.reduceLT, Int.reduceLE, Nat.reduceAdd, Nat.reduceLeDiff, ↓reduceIte, Nat.reduceLT, Nat.reduceMul, Nat.reduceSub, reduceCtorEq, frzLoc, rowCells, vAppM, beq_iff_eq, bne_iff_ne, bne_self_eq_false, beq_self_eq_true, beq_true, beq_false, I, B, w, cx_len, cx_app, cx_own0, cx_own, cx_setOwn0, cx_setOwn, cx_take, cx_takeN, Nat.add_right_cancel_iff, Nat.lt_irrefl, cx_nlt, Nat.not_lt_zero, cx_get' h, cx_setId' h, cx_er h, cx_all0 h, cx_all h, CtxOk.lt h, CtxOk.ne0 h, hk2, hk, hz, w1, w2, w3, w4, w5, List.length_map, List.getElem?_map, byteRow, vf17_res, vf17_keep]))))
  · have hk2 : (k : Int) ≥ (l.length : Int) := by omega
    have hv : nxV l k n = 0 := by rw [nxV, dif_neg hk]
    have ha : nxA l k = k := by rw [nxA, if_neg hk]
    rw [hv, ha]
    (repeat (first
    | refine RX_seq ?_
    | refine RX_block ?_
    | ((first | refine RX_reg ?_ | refine RX_cond' ?_ | refine RX_draw0 ?_ | refine RX_draw rfl ?_ | refine RX_skip ?_ | refine RX_gfrz ?_ | refine RX_exit ?_ | refine RX_ret ?_); try (simp only [go_sem, Nat.max_zero, List.isEmpty_cons, Int.reduceToNat, Nat.reducePow, Int.reduceEq, Int.reduceNe, Int.reduceLT, Int.reduceLE, Nat.reduceAdd, Nat.reduceLeDiff, ↓reduceIte, Nat.reduceLT, Nat.reduceMul, Nat.reduceSub, reduceCtorEq, frzLoc, rowCells, vAppM, beq_iff_eq, bne_iff_ne, bne_self_eq_false, beq_self_eq_true, beq_true, beq_false, I, B, w, cx_len, cx_app, cx_own0, cx_own, cx_setOwn0, cx_setOwn, cx_take, cx_takeN, Nat.add_right_cancel_iff, Nat.lt_irrefl, cx_nlt, Nat.not_lt_zero, cx_get' h, cx_setId' h, cx_er h, cx_all0 h, cx_all h, CtxOk.lt h, CtxOk.ne0 h, hk2, hk, List.length_map, vf17_res, vf17_keep]))))
theorem e29 {l : List Int} (hB : Bytes l) {bl : List (List V)} {id k : Nat} {own : List (List V)} {n : Int} (h : CtxOk bl id) (hn : 0 < n) (hn2 : n ≤ 256) (he : own.map V.erL = own) (hl : own.all (V.ltbL (bl.length + own.length)) = true) :
    CV VP 17 [.ptr id 0, .d (I n)] (cx bl id l (k : Nat) own) = some ⟨.d (I (nxV l k n)), cx bl id l (nxA l k : Nat) own, [], 0⟩ :=
  cx_lift (e29b hB id k hn hn2) h he hl
end Go.Proofs.Ytjhfakhmflemmaa

namespace Go.Proofs.Ytjhfakhmflemmaa
open Go.VM
theorem e21 {l : List Int} (n : Nat) (hn : n < 1000) : CV VP 12 [.d (byteD l), .d (I n)] [] = some ⟨.ptr 0 0, [[.sl 1 ((l.take n).map byteRow) (.own 0 0), .d (I 0)]], [0], 1⟩ := by
  have hall : (l.map byteRow).all (fun r => r.length == 1) = true := by
    rw [List.all_eq_true]
    intro r hr
    obtain ⟨z, _, rfl⟩ := List.mem_map.1 hr
    rfl
  have hall2 : ((l.take n).map byteRow).all (fun r => r.length == 1) = true := by
    rw [List.all_eq_true]
    intro r hr
    obtain ⟨z, _, rfl⟩ := List.mem_map.1 hr
    rfl
  refine CV_run (vf := vf12) rfl rfl ?_
  rw [vf12_start]
  have hall3 : (List.take n (l.map byteRow)).all (fun r => r.length == 1) = true := by rw [← List.map_take]; exact hall2
  by_cases h : (n : Int) < l.length
  · have h1 : ((n : Int) ≤ (l.length : Int)) := by omega
    have h2 : min n l.length ≤ 4294967296 := by omega
    (repeat (first
    | refine RX_seq ?_
    | refine RX_block ?_
    | ((first | refine RX_reg ?_ | refine RX_cond' ?_ | refine RX_draw0 ?_ | refine RX_draw rfl ?_ | refine RX_skip ?_ | refine RX_gfrz ?_ | refine RX_exit ?_ | refine RX_ret ?_); try (simp only [go_sem, Nat.max_zero, List.isEmpty_cons, Int.reduceToNat, Nat.reducePow, Int.reduceEq, Int.reduceNe, Int.reduceLT, Int.reduceLE, Nat.reduceAdd, Nat.reduceLeDiff, ↓reduceIte, Nat.reduceLT, Nat.reduceMul, Nat.reduceSub, reduceCtorEq, frzLoc, rowCells, vAppM, beq_iff_eq, bne_iff_ne, bne_self_eq_false, beq_self_eq_true, beq_true, beq_false, I, B, w, vf12_res, vf12_keep, byteD, h, h1, h2, hall, hall3, vSlice, vBounds, List.length_map, List.map_take, List.length_take]))))
  · have h3 : l.take n = l := List.take_of_length_le (by omega)
    have h2 : l.length ≤ 4294967296 ∨ True := .inr trivial
    have h4 : l.length ≤ 4294967296 := by omega
    have h5 : List.take l.length (l.map byteRow) = l.map byteRow := List.take_of_length_le (by simp)
    rw [h3]
    (repeat (first
    | refine RX_seq ?_
    | refine RX_block ?_
    | ((first | refine RX_reg ?_ | refine RX_cond' ?_ | refine RX_draw0 ?_ | refine RX_draw rfl ?_ | refine RX_skip ?_ | refine RX_gfrz ?_ | refine RX_exit ?_ | refine RX_ret ?_); try (simp only [go_sem, Nat.max_zero, List.isEmpty_cons, Int.reduceToNat, Nat.reducePow, Int.reduceEq, Int.reduceNe, Int.reduceLT, Int.reduceLE, Nat.reduceAdd, Nat.reduceLeDiff, ↓reduceIte, Nat.reduceLT, Nat.reduceMul, Nat.reduceSub, reduceCtorEq, frzLoc, rowCells, vAppM, beq_iff_eq, bne_iff_ne, bne_self_eq_false, beq_self_eq_true, beq_true, beq_false, I, B, w, vf12_res, vf12_keep, byteD, h, h4, h5, hall, vSlice, vBounds, List.length_map, Int.le_refl]))))
end Go.Proofs.Ytjhfakhmflemmaa

namespace Go.Proofs.Ytjhfakhmflemmaa
open Go.VM
/-- rows of terms -/
def Rows3 (rows : List (List D)) : Prop := rows.length ≤ 4294967296 ∧ rows.all (fun r => r.length == 3) = true
theorem e76 (n : Int) : CV VP 53 [.d (I n)] [] = some ⟨.agg [.d (I 1), .d (I n), .d (.sl [])], [], [], 0⟩ := by
  refine CV_run (vf := vf53) rfl rfl ?_
  rw [vf53_start]
  (repeat (first
    | refine RX_seq ?_
    | refine RX_block ?_
    | ((first | refine RX_reg ?_ | refine RX_cond' ?_ | refine RX_draw0 ?_ | refine RX_draw rfl ?_ | refine RX_skip ?_ | refine RX_gfrz ?_ | refine RX_exit ?_ | refine RX_ret ?_); try (simp only [go_sem, Nat.max_zero, List.isEmpty_cons, Int.reduceToNat, Nat.reducePow, Int.reduceEq, Int.reduceNe, Int.reduceLT, Int.reduceLE, Nat.reduceAdd, Nat.reduceLeDiff, ↓reduceIte, Nat.reduceLT, Nat.reduceMul, Nat.reduceSub, reduceCtorEq, frzLoc, rowCells, vAppM, beq_iff_eq, bne_iff_ne, bne_self_eq_false, beq_self_eq_true, beq_true, beq_false, I, B, w, vf53_res, vf53_keep]))))
theorem e72 (n : Int) : CV VP 43 [.d (I n)] [] = some ⟨.agg [.d (I 1), .d (I n), .d (.sl [])], [], [], 0⟩ := by
  refine CV_run (vf := vf43) rfl rfl ?_
  rw [vf43_start]
  (repeat (first
    | refine RX_seq ?_
    | refine RX_block ?_
    | ((first | refine RX_reg ?_ | refine RX_cond' ?_ | refine RX_draw0 ?_ | refine RX_draw rfl ?_ | refine RX_skip ?_ | refine RX_gfrz ?_ | refine RX_exit ?_ | refine RX_ret ?_); try (simp only [go_sem, Nat.max_zero, List.isEmpty_cons, Int.reduceToNat, Nat.reducePow, Int.reduceEq, Int.reduceNe, Int.reduceLT, Int.reduceLE, Nat.reduceAdd, Nat.reduceLeDiff, ↓reduceIte, Nat.reduceLT, Nat.reduceMul, Nat.reduceSub, reduceCtorEq, frzLoc, rowCells, vAppM, beq_iff_eq, bne_iff_ne, bne_self_eq_false, beq_self_eq_true, beq_true, beq_false, I, B, w, vf43_res, vf43_keep]))))
theorem e70 (a b : Int) : CV VP 87 [.d (I a), .d (I b)] [] = some ⟨.agg [.d (I 2), .d (I (w (w (a * 1048576) + b))), .d (.sl [])], [], [], 0⟩ := by
  refine CV_run (vf := vf87) rfl rfl ?_
  rw [vf87_start]
  (repeat (first
    | refine RX_seq ?_
    | refine RX_block ?_
    | ((first | refine RX_reg ?_ | refine RX_cond' ?_ | refine RX_draw0 ?_ | refine RX_draw rfl ?_ | refine RX_skip ?_ | refine RX_gfrz ?_ | refine RX_exit ?_ | refine RX_ret ?_); try (simp only [go_sem, Nat.max_zero, List.isEmpty_cons, Int.reduceToNat, Nat.reducePow, Int.reduceEq, Int.reduceNe, Int.reduceLT, Int.reduceLE, Nat.reduceAdd, Nat.reduceLeDiff, ↓reduceIte, Nat.reduceLT, Nat.reduceMul, Nat.reduceSub, reduceCtorEq, frzLoc, rowCells, vAppM, beq_iff_eq, bne_iff_ne, bne_self_eq_false, beq_self_eq_true, beq_true, beq_false, I, B, w, vf87_res, vf87_keep]))))
theorem e33 {rows : List (List D)} (h : Rows3 rows) : CV VP 20 [.d (.sl rows)] [] = some ⟨.agg [.d (I 3), .d (I 0), .d (.sl rows)], [], [], 0⟩ := by
  refine CV_run (vf := vf20) rfl rfl ?_
  rw [vf20_start]
  (repeat (first
    | refine RX_seq ?_
    | refine RX_block ?_
    | ((first | refine RX_reg ?_ | refine RX_cond' ?_ | refine RX_draw0 ?_ | refine RX_draw rfl ?_ | refine RX_skip ?_ | refine RX_gfrz ?_ | refine RX_exit ?_ | refine RX_ret ?_); try (simp only [go_sem, Nat.max_zero, List.isEmpty_cons, Int.reduceToNat, Nat.reducePow, Int.reduceEq, Int.reduceNe, Int.reduceLT, Int.reduceLE, Nat.reduceAdd, Nat.reduceLeDiff, ↓reduceIte, Nat.reduceLT, Nat.reduceMul, Nat.reduceSub, reduceCtorEq, frzLoc, rowCells, vAppM, beq_iff_eq, bne_iff_ne, bne_self_eq_false, beq_self_eq_true, beq_true, beq_false, I, B, w, vf20_res, vf20_keep, h.1, h.2]))))
end Go.Proofs.Ytjhfakhmflemmaa

namespace Go.Proofs.Ytjhfakhmflemmaa
open Go.VM
end Go.Proofs.Ytjhfakhmflemmaa

namespace Go.Proofs.Ytjhfakhmflemmaa
open Go.VM
end Go.Proofs.Ytjhfakhmflemmaa


namespace Go.Proofs.Ytjhfakhmflemmaa
open Go.VM
end Go.Proofs.Ytjhfakhmflemmaa

namespace Go.Proofs.Ytjhfakhmflemmaa
open Go.VM
/-- a term of the program -/
inductive Tm where
  | mk (op v : Int) (args : List Tm)
mutual
def Tm.row : Tm → List D
  | .mk op v args => [I op, I v, .sl (Tm.rows args)]
def Tm.rows : List Tm → List (List D)
  | [] => []
  | t :: ts => t.row :: Tm.rows ts
end
mutual
def Tm.eqb : Tm → Tm → Bool
  | .mk a b c, .mk x y z => a == x && (b == y && Tm.eqbs c z)
def Tm.eqbs : List Tm → List Tm → Bool
  | [], [] => true
  | t :: ts, u :: us => t.eqb u && Tm.eqbs ts us
  | _, _ => false
end
mutual
def Tm.small : Tm → Prop
  | .mk _ _ args => args.length < 1099511627776 ∧ Tm.smalls args
def Tm.smalls : List Tm → Prop
  | [] => True
  | t :: ts => t.small ∧ Tm.smalls ts
end
theorem Tm.rows_eq : ∀ ts : List Tm, Tm.rows ts = ts.map Tm.row
  | [] => rfl
  | t :: ts => by rw [Tm.rows, Tm.rows_eq ts]; rfl
theorem Tm.eqbs_drop {ts us : List Tm} {i : Nat} {t u : Tm} (h1 : ts[i]? = some t) (h2 : us[i]? = some u) : Tm.eqbs (ts.drop i) (us.drop i) = (t.eqb u && Tm.eqbs (ts.drop (i + 1)) (us.drop (i + 1))) := by
  have a := (List.getElem?_eq_some_iff.1 h1)
  have b := (List.getElem?_eq_some_iff.1 h2)
  obtain ⟨a1, a2⟩ := a
  obtain ⟨b1, b2⟩ := b
  rw [List.drop_eq_getElem_cons a1, List.drop_eq_getElem_cons b1, a2, b2, Tm.eqbs]
theorem Tm.smalls_mem : ∀ {ts : List Tm} {t : Tm}, Tm.smalls ts → t ∈ ts → t.small
  | t :: ts, u, h, hu => by
    rcases List.mem_cons.1 hu with rfl | hu
    · exact h.1
    · exact Tm.smalls_mem h.2 hu
theorem Tm.eqbs_len : ∀ {ts us : List Tm}, ts.length ≠ us.length → Tm.eqbs ts us = false
  | [], [], h => by simp at h
  | [], _ :: _, _ => rfl
  | _ :: _, [], _ => rfl
  | t :: ts, u :: us, h => by rw [Tm.eqbs, Tm.eqbs_len (by simpa using h), Bool.and_false]
theorem e19 : ∀ (n : Nat) (t u : Tm), SizeOf.sizeOf t < n → t.small → CV VP 28 [.agg (t.row.map .d), .agg (u.row.map .d)] [] = some ⟨.d (B (t.eqb u)), [], [], 0⟩
  | 0, t, u, h, _ => absurd h (Nat.not_lt_zero _)
  | n + 1, .mk a b ts, .mk x y us, hn, hs => by
    refine CV_run (vf := vf28) rfl rfl ?_
    rw [vf28_start]
    simp only [Tm.row, List.map_cons, List.map_nil, Tm.rows_eq]
    cases hax : (a != x) with
    | true =>
      (repeat (first
    | refine RX_seq ?_
    | refine RX_block ?_
    | ((first | refine RX_reg ?_ | refine RX_cond' ?_ | refine RX_draw0 ?_ | refine RX_draw rfl ?_ | refine RX_skip ?_ | refine RX_gfrz ?_ | refine RX_exit ?_ | refine RX_ret ?_); try (simp only [go_sem, Nat.max_zero, List.isEmpty_cons, Int.reduceToNat, Nat.reducePow, Int.reduceEq, Int.reduceNe, Int.reduceLT, Int.reduceLE, Nat.reduceAdd, Nat.reduceLeDiff, ↓reduceIte, Nat.reduceLT, Nat.reduceMul, Nat.reduceSub, reduceCtorEq, frzLoc, rowCells, vAppM, beq_iff_eq, bne_iff_ne, bne_self_eq_false, beq_self_eq_true, beq_true, beq_false, I, B, w, hax]))))
      (simp only [go_sem, Nat.max_zero, List.isEmpty_cons, Int.reduceToNat, Nat.reducePow, Int.reduceEq, Int.reduceNe, Int.reduceLT, Int.reduceLE, Nat.reduceAdd, Nat.reduceLeDiff, ↓reduceIte, Nat.reduceLT, Nat.reduceMul, Nat.reduceSub, reduceCtorEq, frzLoc, rowCells, vAppM, beq_iff_eq, bne_iff_ne, bne_self_eq_false, beq_self_eq_true, beq_true, beq_false, I, B, w, vf28, I, B, Tm.eqb])
      have : (a == x) = false := by simpa using hax
      rw [this]; rfl
    | false =>
    have hax' : (a == x) = true := by simpa using hax
    cases hby : (b != y) with
    | true =>
      (repeat (first
    | refine RX_seq ?_
    | refine RX_block ?_
    | ((first | refine RX_reg ?_ | refine RX_cond' ?_ | refine RX_draw0 ?_ | refine RX_draw rfl ?_ | refine RX_skip ?_ | refine RX_gfrz ?_ | refine RX_exit ?_ | refine RX_ret ?_); try (simp only [go_sem, Nat.max_zero, List.isEmpty_cons, Int.reduceToNat, Nat.reducePow, Int.reduceEq, Int.reduceNe, Int.reduceLT, Int.reduceLE, Nat.reduceAdd, Nat.reduceLeDiff, ↓reduceIte, Nat.reduceLT, Nat.reduceMul, Nat.reduceSub, reduceCtorEq, frzLoc, rowCells, vAppM, beq_iff_eq, bne_iff_ne, bne_self_eq_false, beq_self_eq_true, beq_true, beq_false, I, B, w, hax, hby]))))
      (simp only [go_sem, Nat.max_zero, List.isEmpty_cons, Int.reduceToNat, Nat.reducePow, Int.reduceEq, Int.reduceNe, Int.reduceLT, Int.reduceLE, Nat.reduceAdd, Nat.reduceLeDiff, ↓reduceIte, Nat.reduceLT, Nat.reduceMul, Nat.reduceSub, reduceCtorEq, frzLoc, rowCells, vAppM, beq_iff_eq, bne_iff_ne, bne_self_eq_false, beq_self_eq_true, beq_true, beq_false, I, B, w, vf28, I, B, Tm.eqb])
      have : (b == y) = false := by simpa using hby
      rw [this, Bool.false_and, Bool.and_false]
    | false =>
    have hby' : (b == y) = true := by simpa using hby
    cases hl : ((ts.length : Int) != us.length) with
    | true =>
      (repeat (first
    | refine RX_seq ?_
    | refine RX_block ?_
    | ((first | refine RX_reg ?_ | refine RX_cond' ?_ | refine RX_draw0 ?_ | refine RX_draw rfl ?_ | refine RX_skip ?_ | refine RX_gfrz ?_ | refine RX_exit ?_ | refine RX_ret ?_); try (simp only [go_sem, Nat.max_zero, List.isEmpty_cons, Int.reduceToNat, Nat.reducePow, Int.reduceEq, Int.reduceNe, Int.reduceLT, Int.reduceLE, Nat.reduceAdd, Nat.reduceLeDiff, ↓reduceIte, Nat.reduceLT, Nat.reduceMul, Nat.reduceSub, reduceCtorEq, frzLoc, rowCells, vAppM, beq_iff_eq, bne_iff_ne, bne_self_eq_false, beq_self_eq_true, beq_true, beq_false, I, B, w, hax, hby, hl, List.length_map]))))
      (simp only [go_sem, Nat.max_zero, List.isEmpty_cons, Int.reduceToNat, Nat.reducePow, Int.reduceEq, Int.reduceNe, Int.reduceLT, Int.reduceLE, Nat.reduceAdd, Nat.reduceLeDiff, ↓reduceIte, Nat.reduceLT, Nat.reduceMul, Nat.reduceSub, reduceCtorEq, frzLoc, rowCells, vAppM, beq_iff_eq, bne_iff_ne, bne_self_eq_false, beq_self_eq_true, beq_true, beq_false, I, B, w, vf28, I, B, Tm.eqb])
      have : ts.length ≠ us.length := by
        have : (ts.length : Int) ≠ us.length := by simpa using hl
        omega
      rw [Tm.eqbs_len this, Bool.and_false, Bool.and_false]
    | false =>
    have hlen : ts.length = us.length := by
      have : (ts.length : Int) = us.length := by simpa using hl
      omega
    (repeat (first
    | refine RX_seq ?_
    | refine RX_block ?_
    | ((first | refine RX_reg ?_ | refine RX_cond' ?_ | refine RX_draw0 ?_ | refine RX_draw rfl ?_ | refine RX_skip ?_ | refine RX_gfrz ?_ | refine RX_exit ?_ | refine RX_ret ?_); try (simp only [go_sem, Nat.max_zero, List.isEmpty_cons, Int.reduceToNat, Nat.reducePow, Int.reduceEq, Int.reduceNe, Int.reduceLT, Int.reduceLE, Nat.reduceAdd, Nat.reduceLeDiff, ↓reduceIte, Nat.reduceLT, Nat.reduceMul, Nat.reduceSub, reduceCtorEq, frzLoc, rowCells, vAppM, beq_iff_eq, bne_iff_ne, bne_self_eq_false, beq_self_eq_true, beq_true, beq_false, I, B, w, hax, hby, hl, List.length_map]))))
    refine RX_loop ?_
    refine RL_head ?_
    (simp only [go_sem, Nat.max_zero, List.isEmpty_cons, Int.reduceToNat, Nat.reducePow, Int.reduceEq, Int.reduceNe, Int.reduceLT, Int.reduceLE, Nat.reduceAdd, Nat.reduceLeDiff, ↓reduceIte, Nat.reduceLT, Nat.reduceMul, Nat.reduceSub, reduceCtorEq, frzLoc, rowCells, vAppM, beq_iff_eq, bne_iff_ne, bne_self_eq_false, beq_self_eq_true, beq_true, beq_false, I, B, w, St.head, forget, List.length_map, vf28K0, RLK_some])
    have hret : (Tm.mk a b ts).eqb (.mk x y us) = Tm.eqbs (ts.drop 0) (us.drop 0) := by rw [Tm.eqb, hax', hby']; rfl
    rw [hret]
    obtain ⟨hs1, hs2⟩ := hs
    suffices H : ∀ (m i : Nat), i + m = ts.length → RX VP vf28L0 ⟨(.any :: .any :: .ptr 0 0 :: .ptr 1 0 :: .any :: .d (.lit (.int .i64 (i : Int))) :: .any :: .any :: .any :: .any :: .any :: .any :: .any :: .any :: .any :: .any :: .any :: .any :: .any :: .any :: .any :: .any :: .any :: .any :: .any :: .any :: .any :: .any :: .any :: .any :: .any :: .any :: .any :: .any :: .any :: .any :: .any :: .any :: .any :: .any :: .any :: .any :: .any :: .any :: .any :: .any :: []),
        [[V.d (I a), V.d (I b), V.d (D.sl (List.map Tm.row ts))], [V.d (I x), V.d (I y), V.d (D.sl (List.map Tm.row us))]], [], 0, 0, 0⟩
        (again VP vf28K0 vf28L0 2 (outQ 0 (thn VP ((VCode.reg [{ dst := some 4, op := VOp.mov (VArg.c (V.d (D.lit (Value.bool true)))), guard := none }]).seq VCode.ret)
          (retQ vf28 0 { r := V.d (B (Tm.eqbs (ts.drop i) (us.drop i))), blocks := [], live := [], gn := 0 })))) from H ts.length 0 (Nat.zero_add _)
    intro m
    induction m with
    | zero =>
      intro i hi
      have h1 : ¬ i < ts.length := by omega
      unfold vf28L0
      (repeat (first
    | refine RX_seq ?_
    | refine RX_block ?_
    | ((first | refine RX_reg ?_ | refine RX_cond' ?_ | refine RX_draw0 ?_ | refine RX_draw rfl ?_ | refine RX_skip ?_ | refine RX_gfrz ?_ | refine RX_exit ?_ | refine RX_ret ?_); try (simp only [go_sem, Nat.max_zero, List.isEmpty_cons, Int.reduceToNat, Nat.reducePow, Int.reduceEq, Int.reduceNe, Int.reduceLT, Int.reduceLE, Nat.reduceAdd, Nat.reduceLeDiff, ↓reduceIte, Nat.reduceLT, Nat.reduceMul, Nat.reduceSub, reduceCtorEq, frzLoc, rowCells, vAppM, beq_iff_eq, bne_iff_ne, bne_self_eq_false, beq_self_eq_true, beq_true, beq_false, I, B, w, List.length_map, Int.ofNat_lt, h1, vf28_res, vf28_keep]))))
      rw [List.drop_eq_nil_of_le (by omega), List.drop_eq_nil_of_le (by omega)]
      rfl
    | succ m ih =>
      intro i hi
      have h1 : i < ts.length := by omega
      have h2 : i < us.length := by omega
      obtain ⟨t, ht⟩ : ∃ t, ts[i]? = some t := ⟨_, List.getElem?_eq_getElem h1⟩
      obtain ⟨u, hu⟩ : ∃ u, us[i]? = some u := ⟨_, List.getElem?_eq_getElem h2⟩
      have hc := e19 n t u (by
        have := List.sizeOf_lt_of_mem (List.mem_of_getElem? ht)
        simp only [Tm.mk.sizeOf_spec] at hn
        omega) (Tm.smalls_mem hs2 (List.mem_of_getElem? ht))
      have hrow : ∀ t : Tm, t.row.length = 3 := fun t => by cases t; rfl
      rw [Tm.eqbs_drop ht hu]
      cases he : t.eqb u with
      | false =>
        rw [he] at hc
        unfold vf28L0
        (repeat (first
    | refine RX_seq ?_
    | refine RX_block ?_
    | ((first | refine RX_reg ?_ | refine RX_cond' ?_ | refine RX_draw0 ?_ | refine RX_draw rfl ?_ | refine RX_skip ?_ | refine RX_gfrz ?_ | refine RX_exit ?_ | refine RX_ret ?_); try (simp only [go_sem, Nat.max_zero, List.isEmpty_cons, Int.reduceToNat, Nat.reducePow, Int.reduceEq, Int.reduceNe, Int.reduceLT, Int.reduceLE, Nat.reduceAdd, Nat.reduceLeDiff, ↓reduceIte, Nat.reduceLT, Nat.reduceMul, Nat.reduceSub, reduceCtorEq, frzLoc, rowCells, vAppM, beq_iff_eq, bne_iff_ne, bne_self_eq_false, beq_self_eq_true, beq_true, beq_false, I, B, w, List.length_map, Int.ofNat_lt, h1, h2, List.getElem?_map, ht, hu, vf28_res, vf28_keep, hrow, List.take_of_length_le, erL_d, ltbL_d, hc]))))
        rw [Bool.false_and]
      | true =>
        rw [he] at hc
        unfold vf28L0
        (repeat (first
    | refine RX_seq ?_
    | refine RX_block ?_
    | ((first | refine RX_reg ?_ | refine RX_cond' ?_ | refine RX_draw0 ?_ | refine RX_draw rfl ?_ | refine RX_skip ?_ | refine RX_gfrz ?_ | refine RX_exit ?_ | refine RX_ret ?_); try (simp only [go_sem, Nat.max_zero, List.isEmpty_cons, Int.reduceToNat, Nat.reducePow, Int.reduceEq, Int.reduceNe, Int.reduceLT, Int.reduceLE, Nat.reduceAdd, Nat.reduceLeDiff, ↓reduceIte, Nat.reduceLT, Nat.reduceMul, Nat.reduceSub, reduceCtorEq, frzLoc, rowCells, vAppM, beq_iff_eq, bne_iff_ne, bne_self_eq_false, beq_self_eq_true, beq_true, beq_false, I, B, w, List.length_map, Int.ofNat_lt, h1, h2, List.getElem?_map, ht, hu, vf28_res, vf28_keep, hrow, List.take_of_length_le, erL_d, ltbL_d, hc, w_nat (Nat.lt_trans h1 hs1)]))))
        refine RL_head ?_
        (simp only [go_sem, Nat.max_zero, List.isEmpty_cons, Int.reduceToNat, Nat.reducePow, Int.reduceEq, Int.reduceNe, Int.reduceLT, Int.reduceLE, Nat.reduceAdd, Nat.reduceLeDiff, ↓reduceIte, Nat.reduceLT, Nat.reduceMul, Nat.reduceSub, reduceCtorEq, frzLoc, rowCells, vAppM, beq_iff_eq, bne_iff_ne, bne_self_eq_false, beq_self_eq_true, beq_true, beq_false, I, B, w, St.head, forget, List.length_map, vf28K0, RLK_some])
        exact ih (i + 1) (by omega)
end Go.Proofs.Ytjhfakhmflemmaa

namespace Go.Proofs.Ytjhfakhmflemmaa
open Go.VM
end Go.Proofs.Ytjhfakhmflemmaa

namespace Go.Proofs.Ytjhfakhmflemmaa
open Go.VM
def Tm.op : Tm → Int | .mk a _ _ => a
def Tm.val : Tm → Int | .mk _ b _ => b
def Tm.args : Tm → List Tm | .mk _ _ c => c
theorem Tm.op_mk (a b : Int) (c : List Tm) : (Tm.mk a b c).op = a := rfl
theorem Tm.val_mk (a b : Int) (c : List Tm) : (Tm.mk a b c).val = b := rfl
theorem Tm.args_mk (a b : Int) (c : List Tm) : (Tm.mk a b c).args = c := rfl
theorem Tm.row_eq (t : Tm) : t.row = [I t.op, I t.val, .sl (t.args.map Tm.row)] := by cases t; rw [Tm.row, Tm.rows_eq]; rfl
theorem Tm.row_mk (a b : Int) (c : List Tm) : (Tm.mk a b c).row = [I a, I b, .sl (c.map Tm.row)] := by rw [Tm.row, Tm.rows_eq]
abbrev Tm.ag (t : Tm) : V := .agg [.d (I t.op), .d (I t.val), .d (.sl (t.args.map Tm.row))]
theorem Tm.rows3 (ts : List Tm) (h : ts.length ≤ 4294967296) : Rows3 (ts.map Tm.row) :=
  ⟨by simpa using h, by rw [List.all_eq_true]; intro r hr; obtain ⟨t, _, rfl⟩ := List.mem_map.1 hr; rw [Tm.row_eq]; rfl⟩
end Go.Proofs.Ytjhfakhmflemmaa

namespace Go.Proofs.Ytjhfakhmflemmaa
open Go.VM
end Go.Proofs.Ytjhfakhmflemmaa

namespace Go.Proofs.Ytjhfakhmflemmaa
open Go.VM
end Go.Proofs.Ytjhfakhmflemmaa

namespace Go.Proofs.Ytjhfakhmflemmaa
open Go.VM
theorem e103 {rows : List (List D)} (h : Rows3 rows) : CV VP 82 [.d (.sl rows)] [] = some ⟨.d (.sl rows), [], [], 0⟩ := by
  cases rows with
  | nil => exact vf82_cnil
  | cons r rs =>
    refine CV_run (vf := vf82) rfl rfl ?_
    rw [vf82_start]
    have h1 := h.1
    have h2 := h.2
    simp only [List.length_cons, List.all_cons] at h1 h2
    (repeat (first
    | refine RX_seq ?_
    | refine RX_block ?_
    | ((first | refine RX_reg ?_ | refine RX_cond' ?_ | refine RX_draw0 ?_ | refine RX_draw rfl ?_ | refine RX_skip ?_ | refine RX_gfrz ?_ | refine RX_exit ?_ | refine RX_ret ?_); try (simp only [go_sem, Nat.max_zero, List.isEmpty_cons, Int.reduceToNat, Nat.reducePow, Int.reduceEq, Int.reduceNe, Int.reduceLT, Int.reduceLE, Nat.reduceAdd, Nat.reduceLeDiff, ↓reduceIte, Nat.reduceLT, Nat.reduceMul, Nat.reduceSub, reduceCtorEq, frzLoc, rowCells, vAppM, beq_iff_eq, bne_iff_ne, bne_self_eq_false, beq_self_eq_true, beq_true, beq_false, I, B, w, vf82_res, vf82_keep, h1, h2]))))
theorem e71 {rows : List (List D)} (h : Rows3 rows) : CV VP 42 [.d (.sl rows)] [] = some ⟨.agg [.d (I 3), .d (I 0), .d (.sl rows)], [], [], 0⟩ := by
  refine CV_run (vf := vf42) rfl rfl ?_
  rw [vf42_start]
  (repeat (first
    | refine RX_seq ?_
    | refine RX_block ?_
    | ((first | refine RX_reg ?_ | refine RX_cond' ?_ | refine RX_draw0 ?_ | refine RX_draw rfl ?_ | refine RX_skip ?_ | refine RX_gfrz ?_ | refine RX_exit ?_ | refine RX_ret ?_); try (simp only [go_sem, Nat.max_zero, List.isEmpty_cons, Int.reduceToNat, Nat.reducePow, Int.reduceEq, Int.reduceNe, Int.reduceLT, Int.reduceLE, Nat.reduceAdd, Nat.reduceLeDiff, ↓reduceIte, Nat.reduceLT, Nat.reduceMul, Nat.reduceSub, reduceCtorEq, frzLoc, rowCells, vAppM, beq_iff_eq, bne_iff_ne, bne_self_eq_false, beq_self_eq_true, beq_true, beq_false, I, B, w, vf42_res, vf42_keep, e103 h]))))
theorem e24 (n : Int) (ts : List Tm) (h : ts.length < 1000000) : CV VP 68 [.d (I n), .d (.sl (ts.map Tm.row))] [] = some ⟨(Tm.mk 3 0 (.mk 1 n [] :: ts)).ag, [], [], 0⟩ := by
  refine CV_run (vf := vf68) rfl rfl ?_
  rw [vf68_start]
  have h1 := Tm.rows3 (.mk 1 n [] :: ts) (by simp only [List.length_cons]; omega)
  have h2 := Tm.rows3 ts (by omega)
  have h3 := h2.2
  have h4 : ts.length + 1 ≤ 4294967296 := by omega
  simp only [List.map_cons, Tm.row_mk, List.map_nil] at h1
  have hr : (Tm.mk 3 0 (.mk 1 n [] :: ts)).ag = .agg [.d (I 3), .d (I 0), .d (.sl ([I 1, I n, .sl []] :: ts.map Tm.row))] := by
    simp only [Tm.ag, Tm.op_mk, Tm.val_mk, Tm.args_mk, List.map_cons, Tm.row_mk, List.map_nil]
  rw [hr]
  have h5 : 1 + ts.length ≤ 4294967296 := by omega
  (repeat (first
    | refine RX_seq ?_
    | refine RX_block ?_
    | ((first | refine RX_reg ?_ | refine RX_cond' ?_ | refine RX_draw0 ?_ | refine RX_draw rfl ?_ | refine RX_skip ?_ | refine RX_gfrz ?_ | refine RX_exit ?_ | refine RX_ret ?_); try (simp only [go_sem, Nat.max_zero, List.isEmpty_cons, Int.reduceToNat, Nat.reducePow, Int.reduceEq, Int.reduceNe, Int.reduceLT, Int.reduceLE, Nat.reduceAdd, Nat.reduceLeDiff, ↓reduceIte, Nat.reduceLT, Nat.reduceMul, Nat.reduceSub, reduceCtorEq, frzLoc, rowCells, vAppM, beq_iff_eq, bne_iff_ne, bne_self_eq_false, beq_self_eq_true, beq_true, beq_false, I, B, w, vf68_res, vf68_keep, e72, h3, h4, h5, List.length_map, e71 h1]))))
end Go.Proofs.Ytjhfakhmflemmaa

namespace Go.Proofs.Ytjhfakhmflemmaa
open Go.VM
end Go.Proofs.Ytjhfakhmflemmaa

namespace Go.Proofs.Ytjhfakhmflemmaa
open Go.VM
end Go.Proofs.Ytjhfakhmflemmaa

namespace Go.Proofs.Ytjhfakhmflemmaa
open Go.VM
theorem e17 (i c : Int) (x1 x2 x3 x4 x5 x6 x8 x9 x10 x11 x12 x13 x14 x15 x16 x17 x18 : D) : CV VP 49 [.agg [.d (I i), .d x1, .d x2, .d x3, .d x4, .d x5, .d x6, .d (I c), .d x8, .d x9, .d x10, .d x11, .d x12, .d x13, .d x14, .d x15, .d x16, .d x17, .d x18]] [] = some ⟨.tup [.agg [.d (I i), .d x1, .d x2, .d x3, .d x4, .d x5, .d x6, .d (I (w (c + 1))), .d x8, .d x9, .d x10, .d x11, .d x12, .d x13, .d x14, .d x15, .d x16, .d x17, .d x18], .d (I (w (w (1000 * w (i + 1)) + (w (c + 1)))))], [], [], 0⟩ := by
  refine CV_run (vf := vf49) rfl rfl ?_
  rw [vf49_start]
  (repeat (first
    | refine RX_seq ?_
    | refine RX_block ?_
    | ((first | refine RX_reg ?_ | refine RX_cond' ?_ | refine RX_draw0 ?_ | refine RX_draw rfl ?_ | refine RX_skip ?_ | refine RX_gfrz ?_ | refine RX_exit ?_ | refine RX_ret ?_); try (simp only [go_sem, Nat.max_zero, List.isEmpty_cons, Int.reduceToNat, Nat.reducePow, Int.reduceEq, Int.reduceNe, Int.reduceLT, Int.reduceLE, Nat.reduceAdd, Nat.reduceLeDiff, ↓reduceIte, Nat.reduceLT, Nat.reduceMul, Nat.reduceSub, reduceCtorEq, frzLoc, rowCells, vAppM, beq_iff_eq, bne_iff_ne, bne_self_eq_false, beq_self_eq_true, beq_true, beq_false, I, B, w]))))
  (simp only [go_sem, Nat.max_zero, List.isEmpty_cons, Int.reduceToNat, Nat.reducePow, Int.reduceEq, Int.reduceNe, Int.reduceLT, Int.reduceLE, Nat.reduceAdd, Nat.reduceLeDiff, ↓reduceIte, Nat.reduceLT, Nat.reduceMul, Nat.reduceSub, reduceCtorEq, frzLoc, rowCells, vAppM, beq_iff_eq, bne_iff_ne, bne_self_eq_false, beq_self_eq_true, beq_true, beq_false, I, B, w, vf49])
theorem e13 : CV VP 10 [] [] = some ⟨.d (B true), [], [], 0⟩ := by
  refine CV_run (vf := vf10) rfl rfl ?_
  rw [vf10_start]
  (repeat (first
    | refine RX_seq ?_
    | refine RX_block ?_
    | ((first | refine RX_reg ?_ | refine RX_cond' ?_ | refine RX_draw0 ?_ | refine RX_draw rfl ?_ | refine RX_skip ?_ | refine RX_gfrz ?_ | refine RX_exit ?_ | refine RX_ret ?_); try (simp only [go_sem, Nat.max_zero, List.isEmpty_cons, Int.reduceToNat, Nat.reducePow, Int.reduceEq, Int.reduceNe, Int.reduceLT, Int.reduceLE, Nat.reduceAdd, Nat.reduceLeDiff, ↓reduceIte, Nat.reduceLT, Nat.reduceMul, Nat.reduceSub, reduceCtorEq, frzLoc, rowCells, vAppM, beq_iff_eq, bne_iff_ne, bne_self_eq_false, beq_self_eq_true, beq_true, beq_false, I, B, w, e17]))))
  (simp only [go_sem, Nat.max_zero, List.isEmpty_cons, Int.reduceToNat, Nat.reducePow, Int.reduceEq, Int.reduceNe, Int.reduceLT, Int.reduceLE, Nat.reduceAdd, Nat.reduceLeDiff, ↓reduceIte, Nat.reduceLT, Nat.reduceMul, Nat.reduceSub, reduceCtorEq, frzLoc, rowCells, vAppM, beq_iff_eq, bne_iff_ne, bne_self_eq_false, beq_self_eq_true, beq_true, beq_false, I, B, w, vf10])
  rfl
theorem e14 (a n : Int) (hn : 0 < n) (hw : n < 9223372036854775808) : CV VP 34 [.d (I a), .d (I n)] [] = some ⟨.d (I (a % n)), [], [], 0⟩ := by
  have h1 := Int.emod_nonneg a (Int.ne_of_gt hn)
  have h2 := Int.emod_lt_of_pos a hn
  have h3 := @Int.tmod_eq_emod a n
  refine CV_run (vf := vf34) rfl rfl ?_
  rw [vf34_start]
  (repeat (first
    | refine RX_seq ?_
    | refine RX_block ?_
    | ((first | refine RX_reg ?_ | refine RX_cond' ?_ | refine RX_draw0 ?_ | refine RX_draw rfl ?_ | refine RX_skip ?_ | refine RX_gfrz ?_ | refine RX_exit ?_ | refine RX_ret ?_); try (simp only [go_sem, Nat.max_zero, List.isEmpty_cons, Int.reduceToNat, Nat.reducePow, Int.reduceEq, Int.reduceNe, Int.reduceLT, Int.reduceLE, Nat.reduceAdd, Nat.reduceLeDiff, ↓reduceIte, Nat.reduceLT, Nat.reduceMul, Nat.reduceSub, reduceCtorEq, frzLoc, rowCells, vAppM, beq_iff_eq, bne_iff_ne, bne_self_eq_false, beq_self_eq_true, beq_true, beq_false, I, B, w, Int.ne_of_gt hn]))))
  split
  · rename_i h
    (repeat (first
    | refine RX_seq ?_
    | refine RX_block ?_
    | ((first | refine RX_reg ?_ | refine RX_cond' ?_ | refine RX_draw0 ?_ | refine RX_draw rfl ?_ | refine RX_skip ?_ | refine RX_gfrz ?_ | refine RX_exit ?_ | refine RX_ret ?_); try (simp only [go_sem, Nat.max_zero, List.isEmpty_cons, Int.reduceToNat, Nat.reducePow, Int.reduceEq, Int.reduceNe, Int.reduceLT, Int.reduceLE, Nat.reduceAdd, Nat.reduceLeDiff, ↓reduceIte, Nat.reduceLT, Nat.reduceMul, Nat.reduceSub, reduceCtorEq, frzLoc, rowCells, vAppM, beq_iff_eq, bne_iff_ne, bne_self_eq_false, beq_self_eq_true, beq_true, beq_false, I, B, w]))))
    (simp only [go_sem, Nat.max_zero, List.isEmpty_cons, Int.reduceToNat, Nat.reducePow, Int.reduceEq, Int.reduceNe, Int.reduceLT, Int.reduceLE, Nat.reduceAdd, Nat.reduceLeDiff, ↓reduceIte, Nat.reduceLT, Nat.reduceMul, Nat.reduceSub, reduceCtorEq, frzLoc, rowCells, vAppM, beq_iff_eq, bne_iff_ne, bne_self_eq_false, beq_self_eq_true, beq_true, beq_false, I, B, w, vf34])
    have : IntKind.i64.wrap (a.tmod n + n) = a % n := by
      split at h3 <;> rw [IntWalk.i64_in _ (by omega)] <;> omega
    rw [this]
  · rename_i h
    (repeat (first
    | refine RX_seq ?_
    | refine RX_block ?_
    | ((first | refine RX_reg ?_ | refine RX_cond' ?_ | refine RX_draw0 ?_ | refine RX_draw rfl ?_ | refine RX_skip ?_ | refine RX_gfrz ?_ | refine RX_exit ?_ | refine RX_ret ?_); try (simp only [go_sem, Nat.max_zero, List.isEmpty_cons, Int.reduceToNat, Nat.reducePow, Int.reduceEq, Int.reduceNe, Int.reduceLT, Int.reduceLE, Nat.reduceAdd, Nat.reduceLeDiff, ↓reduceIte, Nat.reduceLT, Nat.reduceMul, Nat.reduceSub, reduceCtorEq, frzLoc, rowCells, vAppM, beq_iff_eq, bne_iff_ne, bne_self_eq_false, beq_self_eq_true, beq_true, beq_false, I, B, w]))))
    (simp only [go_sem, Nat.max_zero, List.isEmpty_cons, Int.reduceToNat, Nat.reducePow, Int.reduceEq, Int.reduceNe, Int.reduceLT, Int.reduceLE, Nat.reduceAdd, Nat.reduceLeDiff, ↓reduceIte, Nat.reduceLT, Nat.reduceMul, Nat.reduceSub, reduceCtorEq, frzLoc, rowCells, vAppM, beq_iff_eq, bne_iff_ne, bne_self_eq_false, beq_self_eq_true, beq_true, beq_false, I, B, w, vf34])
    have : a.tmod n = a % n := by
      split at h3 <;> omega
    rw [this]
/-- what Value answers -/
def Tm.one : List Tm → Int × Bool
  | [u] => if u.op = 1 then (u.val, true) else (0, false)
  | _ => (0, false)
mutual
theorem Tm.eqb_refl : ∀ t : Tm, t.eqb t = true
  | .mk a b c => by rw [Tm.eqb, Tm.eqbs_refl c]; simp
theorem Tm.eqbs_refl : ∀ ts : List Tm, Tm.eqbs ts ts = true
  | [] => rfl
  | t :: ts => by rw [Tm.eqbs, Tm.eqb_refl t, Tm.eqbs_refl ts]; rfl
end
end Go.Proofs.Ytjhfakhmflemmaa

namespace Go.Proofs.Ytjhfakhmflemmaa
open Go.VM
abbrev U (n : Int) : D := .lit (.int .u64 n)
def fam (six : Bool) : Int := if six then 6 else 4
def famH (six : Bool) : Int := if six then 2305843009213693952 else 0
def adr (six : Bool) (side low : Int) : Int := (if six then 0 else 167772160) + side * 256 + low
theorem e91 (side low : Int) (six : Bool) (h1 : 0 ≤ side) (h2 : side ≤ 7) (h3 : 0 ≤ low) (h4 : low ≤ 65535) :
    CV VP 67 [.d (I side), .d (I low), .d (B six)] [] = some ⟨.agg [.d (I (fam six)), .d (U (famH six)), .d (U (adr six side low))], [], [], 0⟩ := by
  have w1 : IntKind.i64.wrap (side * 256) = side * 256 := w_in (by omega) (by omega)
  have w2 : IntKind.i64.wrap (side * 256 + low) = side * 256 + low := w_in (by omega) (by omega)
  have w3 : IntKind.i64.wrap (167772160 + side * 256) = 167772160 + side * 256 := w_in (by omega) (by omega)
  have w4 : IntKind.i64.wrap (167772160 + side * 256 + low) = 167772160 + side * 256 + low := w_in (by omega) (by omega)
  have u1 : IntKind.u64.wrap (side * 256 + low) = side * 256 + low := by simp [IntKind.wrap, IntKind.signed, IntKind.bits]; omega
  have u2 : IntKind.u64.wrap (167772160 + side * 256 + low) = 167772160 + side * 256 + low := by simp [IntKind.wrap, IntKind.signed, IntKind.bits]; omega
  have p8 : (2 : Int) ^ (min 8 64) = 256 := rfl
  have h8 : ¬ ((8 : Int) < 0) := by decide
  refine CV_run (vf := vf67) rfl rfl ?_
  rw [vf67_start]
  cases six with
  | true =>
    have a1 : adr true side low = side * 256 + low := by unfold adr; simp
    rw [a1]
    simp only [fam, famH]
    (repeat (first
    | refine RX_seq ?_
    | refine RX_block ?_
    | ((first | refine RX_reg ?_ | refine RX_cond' ?_ | refine RX_draw0 ?_ | refine RX_draw rfl ?_ | refine RX_skip ?_ | refine RX_gfrz ?_ | refine RX_exit ?_ | refine RX_ret ?_); try (simp only [go_sem, Nat.max_zero, List.isEmpty_cons, Int.reduceToNat, Nat.reducePow, Int.reduceEq, Int.reduceNe, Int.reduceLT, Int.reduceLE, Nat.reduceAdd, Nat.reduceLeDiff, ↓reduceIte, Nat.reduceLT, Nat.reduceMul, Nat.reduceSub, reduceCtorEq, frzLoc, rowCells, vAppM, beq_iff_eq, bne_iff_ne, bne_self_eq_false, beq_self_eq_true, beq_true, beq_false, I, B, w, vf67_res, vf67_keep, vShift, p8, h8, w1, w2, u1]))))
  | false =>
    have a1 : adr false side low = 167772160 + side * 256 + low := by unfold adr; simp
    rw [a1]
    simp only [fam, famH]
    (repeat (first
    | refine RX_seq ?_
    | refine RX_block ?_
    | ((first | refine RX_reg ?_ | refine RX_cond' ?_ | refine RX_draw0 ?_ | refine RX_draw rfl ?_ | refine RX_skip ?_ | refine RX_gfrz ?_ | refine RX_exit ?_ | refine RX_ret ?_); try (simp only [go_sem, Nat.max_zero, List.isEmpty_cons, Int.reduceToNat, Nat.reducePow, Int.reduceEq, Int.reduceNe, Int.reduceLT, Int.reduceLE, Nat.reduceAdd, Nat.reduceLeDiff, ↓reduceIte, Nat.reduceLT, Nat.reduceMul, Nat.reduceSub, reduceCtorEq, frzLoc, rowCells, vAppM, beq_iff_eq, bne_iff_ne, bne_self_eq_false, beq_self_eq_true, beq_true, beq_false, I, B, w, vf67_res, vf67_keep, vShift, p8, h8, w1, w3, w4, u2]))))
end Go.Proofs.Ytjhfakhmflemmaa

namespace Go.Proofs.Ytjhfakhmflemmaa
open Go.VM
/-- a packet and its number -/
structure Pk where
  (f h a f' h' a' pr sp tp id : Int)
/-- its ten cells -/
def Pk.ds (p : Pk) : List D := [I p.f, U p.h, U p.a, I p.f', U p.h', U p.a', I p.pr, I p.sp, I p.tp, I p.id]
def Pk.ns (p : Pk) : List Int := [p.f, w p.h, w p.a, p.f', w p.h', w p.a', p.pr, p.sp, p.tp, p.id]
def nT (n : Int) : Tm := .mk 1 n []
def Pk.tm (p : Pk) : Tm := .mk 3 0 (p.ns.map nT)
theorem e75 (n : Int) : CV VP 69 [.d (I n)] [] = some ⟨.agg [.d (I 1), .d (I n), .d (.sl [])], [], [], 0⟩ := by
  refine CV_run (vf := vf69) rfl rfl ?_
  rw [vf69_start]
  (repeat (first
    | refine RX_seq ?_
    | refine RX_block ?_
    | ((first | refine RX_reg ?_ | refine RX_cond' ?_ | refine RX_draw0 ?_ | refine RX_draw rfl ?_ | refine RX_skip ?_ | refine RX_gfrz ?_ | refine RX_exit ?_ | refine RX_ret ?_); try (simp only [go_sem, Nat.max_zero, List.isEmpty_cons, Int.reduceToNat, Nat.reducePow, Int.reduceEq, Int.reduceNe, Int.reduceLT, Int.reduceLE, Nat.reduceAdd, Nat.reduceLeDiff, ↓reduceIte, Nat.reduceLT, Nat.reduceMul, Nat.reduceSub, reduceCtorEq, frzLoc, rowCells, vAppM, beq_iff_eq, bne_iff_ne, bne_self_eq_false, beq_self_eq_true, beq_true, beq_false, I, B, w, e76, vf69_res, vf69_keep]))))
end Go.Proofs.Ytjhfakhmflemmaa

namespace Go.Proofs.Ytjhfakhmflemmaa
open Go.VM
def validP (f h a : Int) : Prop := f = 6 ∨ f = 4 ∧ h = 0 ∧ a < 4294967296
instance (f h a : Int) : Decidable (validP f h a) := by unfold validP; infer_instance
theorem e83 (f h a : Int) : CV VP 93 [.agg [.d (I f), .d (U h), .d (U a)]] [] = some ⟨.d (B (decide (validP f h a))), [], [], 0⟩ := by
  refine CV_run (vf := vf93) rfl rfl ?_
  rw [vf93_start]
  (repeat' (first
    | refine RX_seq ?_
    | refine RX_block ?_
    | ((first | refine RX_reg ?_ | refine RX_cond' ?_ | refine RX_draw0 ?_ | refine RX_draw rfl ?_ | refine RX_skip ?_ | refine RX_gfrz ?_ | refine RX_exit ?_ | refine RX_ret ?_); try (simp only [go_sem, Nat.max_zero, List.isEmpty_cons, Int.reduceToNat, Nat.reducePow, Int.reduceEq, Int.reduceNe, Int.reduceLT, Int.reduceLE, Nat.reduceAdd, Nat.reduceLeDiff, ↓reduceIte, Nat.reduceLT, Nat.reduceMul, Nat.reduceSub, reduceCtorEq, frzLoc, rowCells, vAppM, bne_self_eq_false, beq_self_eq_true, beq_true, beq_false, I, B, w, ibeq, ibne, bbeq, decide_eq_false_iff_not, decide_not, Bool.not_not, Decidable.not_not, Bool.not_eq_eq_eq_not, gt_iff_lt, ge_iff_le, and_false, false_and, or_self, and_self, vf93_res, vf93_keep, validP, *]))
    | (refine ite_ngo (fun _ => ?_) (fun _ => ?_) <;> try (simp only [go_sem, Nat.max_zero, List.isEmpty_cons, Int.reduceToNat, Nat.reducePow, Int.reduceEq, Int.reduceNe, Int.reduceLT, Int.reduceLE, Nat.reduceAdd, Nat.reduceLeDiff, ↓reduceIte, Nat.reduceLT, Nat.reduceMul, Nat.reduceSub, reduceCtorEq, frzLoc, rowCells, vAppM, bne_self_eq_false, beq_self_eq_true, beq_true, beq_false, I, B, w, ibeq, ibne, bbeq, decide_eq_false_iff_not, decide_not, Bool.not_not, Decidable.not_not, Bool.not_eq_eq_eq_not, gt_iff_lt, ge_iff_le, and_false, false_and, or_self, and_self, vf93_res, vf93_keep, validP, *]))
    | (refine ite_go (fun _ => ?_) (fun _ => ?_) <;> try (simp only [go_sem, Nat.max_zero, List.isEmpty_cons, Int.reduceToNat, Nat.reducePow, Int.reduceEq, Int.reduceNe, Int.reduceLT, Int.reduceLE, Nat.reduceAdd, Nat.reduceLeDiff, ↓reduceIte, Nat.reduceLT, Nat.reduceMul, Nat.reduceSub, reduceCtorEq, frzLoc, rowCells, vAppM, bne_self_eq_false, beq_self_eq_true, beq_true, beq_false, I, B, w, ibeq, ibne, bbeq, decide_eq_false_iff_not, decide_not, Bool.not_not, Decidable.not_not, Bool.not_eq_eq_eq_not, gt_iff_lt, ge_iff_le, and_false, false_and, or_self, and_self, vf93_res, vf93_keep, validP, *]))))
def portP (n : Int) : Prop := -1 ≤ n ∧ n ≤ 65535
instance (n : Int) : Decidable (portP n) := by unfold portP; infer_instance
end Go.Proofs.Ytjhfakhmflemmaa

namespace Go.Proofs.Ytjhfakhmflemmaa
open Go.VM
/-- a box of packets, both of whose sides are of one family -/
structure Bx where
  f : Int
  h : Int
  a0 : Int
  b0 : Int
  a1 : Int
  b1 : Int
  p0 : Int
  p1 : Int
  l0 : Int
  l1 : Int
  r0 : Int
  r1 : Int
abbrev bxL (f h a0 b0 a1 b1 p0 p1 l0 l1 r0 r1 : Int) : List D := [I f, U h, U a0, I f, U h, U b0, I f, U h, U a1, I f, U h, U b1, I p0, I p1, I l0, I l1, I r0, I r1]
abbrev bxV (f h a0 b0 a1 b1 p0 p1 l0 l1 r0 r1 : Int) : V := .agg [.d (I f), .d (U h), .d (U a0), .d (I f), .d (U h), .d (U b0), .d (I f), .d (U h), .d (U a1), .d (I f), .d (U h), .d (U b1), .d (I p0), .d (I p1), .d (I l0), .d (I l1), .d (I r0), .d (I r1)]
abbrev Bx.row (x : Bx) : List D := bxL x.f x.h x.a0 x.b0 x.a1 x.b1 x.p0 x.p1 x.l0 x.l1 x.r0 x.r1
abbrev Bx.ag (x : Bx) : V := bxV x.f x.h x.a0 x.b0 x.a1 x.b1 x.p0 x.p1 x.l0 x.l1 x.r0 x.r1
def num (n : Int) : Prop := -1 ≤ n ∧ n ≤ 65535
structure Bx.ok (x : Bx) : Prop where
  fam : x.f = 4 ∧ x.h = 0 ∨ x.f = 6 ∧ x.h = 2305843009213693952
  p0 : num x.p0
  p1 : num x.p1
  l0 : num x.l0
  l1 : num x.l1
  r0 : num x.r0
  r1 : num x.r1
abbrev Bx.zero : Bx := ⟨0, 0, 0, 0, 0, 0, 0, 0, 0, 0, 0, 0⟩
/-- a box that may stand in a policy -/
structure Bx.fine (x : Bx) : Prop where
  a0 : 0 ≤ x.a0
  b0 : x.b0 < 4294967296
  a1 : 0 ≤ x.a1
  b1 : x.b1 < 4294967296
  ab0 : x.a0 ≤ x.b0
  ab1 : x.a1 ≤ x.b1
  p0 : 0 ≤ x.p0
  p01 : x.p0 ≤ x.p1
  p1 : x.p1 ≤ 255
  l01 : x.l0 ≤ x.l1
  r01 : x.r0 ≤ x.r1
/-- a rule -/
structure Ru where
  act : Int
  tm : ByteArray
  bs : List Bx
abbrev Ru.row (r : Ru) : List D := [I r.act, .lit (.string r.tm), .sl (r.bs.map Bx.row)]
structure Ru.ok (r : Ru) : Prop where
  len : r.bs.length < 1000
  bs : ∀ b ∈ r.bs, b.ok
def bx0 (six : Bool) (s : Int) : Bx := ⟨fam six, famH six, adr six s 0, adr six s 255, adr six (1 - s) 0, adr six (1 - s) 255, 0, 255, -1, 65535, -1, 65535⟩
/-- the box that is drawn -/
def bxF (l : List Int) (s : Int) (k : Nat) : Bx × Nat :=
  let six := decide (nxV l k 8 = 7)
  let k1 := nxA l k
  let k2 := nxA l k1
  let k3 := nxA l k2
  let k4 := nxA l k3
  let k5 := nxA l k4
  let lo := nxV l k1 8 * 16
  let up := 255 - nxV l k2 8 * 8
  let x := nxV l k3 5
  let b := bx0 six s
  if x = 1 then ({ b with a0 := adr six s lo, b0 := adr six s up }, k4)
  else if x = 2 then ({ b with a1 := adr six (1 - s) lo, b1 := adr six (1 - s) up }, k4)
  else if x = 3 then ({ b with p0 := 6, p1 := 6 + nxV l k4 12, r0 := nxV l k5 4 * 20, r1 := 100 }, nxA l k5)
  else if x = 4 then ({ b with p0 := 6, p1 := 17, l0 := -1, l1 := 80 }, k4)
  else (b, k4)
def BxP (l : List Int) (s : Int) (k : Nat) (p : Bx × Nat) : Prop := p.1.ok ∧ ∀ (id : Nat) bl, CtxOk bl id →
    CV VP 26 [.ptr id 0, .d (I s)] (cx bl id l (k : Nat) []) = some ⟨p.1.ag, cx bl id l (p.2 : Nat) [], [], 0⟩
theorem bxF_both {l : List Int} (hB : Bytes l) {s : Int} (hs0 : 0 ≤ s) (hs1 : s ≤ 1) (k : Nat) : (bxF l s k).1.ok ∧ (bxF l s k).1.fine := by
  have q1 := nxV_range hB (k := nxA l k) (n := 8) (by decide)
  have q2 := nxV_range hB (k := nxA l (nxA l k)) (n := 8) (by decide)
  have q12 := nxV_range hB (k := nxA l (nxA l (nxA l (nxA l k)))) (n := 12) (by decide)
  have q4 := nxV_range hB (k := nxA l (nxA l (nxA l (nxA l (nxA l k))))) (n := 4) (by decide)
  unfold bxF
  generalize decide (nxV l k 8 = 7) = six at *
  simp only
  cases six
  all_goals
    repeat' split
  all_goals
    refine ⟨⟨?_, ?_, ?_, ?_, ?_, ?_, ?_⟩, ⟨?_, ?_, ?_, ?_, ?_, ?_, ?_, ?_, ?_, ?_, ?_⟩⟩ <;> simp only [bx0, fam, famH, adr, num, if_true, if_false, Bool.false_eq_true] <;> first | omega | simp
set_option maxHeartbeats 4000000 in
theorem bxF_ok {l : List Int} (hB : Bytes l) (s : Int) (hs0 : 0 ≤ s) (hs1 : s ≤ 1) (k : Nat) : BxP l s k (bxF l s k) := by
  refine ⟨(bxF_both hB hs0 hs1 k).1, fun id bl h => ?_⟩
  have q1 := nxV_range hB (k := nxA l k) (n := 8) (by decide)
  have q2 := nxV_range hB (k := nxA l (nxA l k)) (n := 8) (by decide)
  have q12 := nxV_range hB (k := nxA l (nxA l (nxA l (nxA l k)))) (n := 12) (by decide)
  have q4 := nxV_range hB (k := nxA l (nxA l (nxA l (nxA l (nxA l k))))) (n := 4) (by decide)
  have cN : ∀ (n : Int), 0 < n → n ≤ 256 → ∀ (k : Nat) (own : List (List V)), own.map V.erL = own → own.all (V.ltbL (bl.length + own.length)) = true → CV VP 17 [.ptr id 0, .d (I n)] (cx bl id l (k : Nat) own) = some ⟨.d (I (nxV l k n)), cx bl id l (nxA l k : Nat) own, [], 0⟩ := fun n h1 h2 k own => e29 hB h h1 h2
  have c8 := cN 8 (by decide) (by decide)
  have c5 := cN 5 (by decide) (by decide)
  have c12 := cN 12 (by decide) (by decide)
  have c4 := cN 4 (by decide) (by decide)
  have hid := h.lt
  clear cN
  simp only [bxF]
  generalize hk1 : nxA l k = k1 at *
  generalize hk2 : nxA l k1 = k2 at *
  generalize hk3 : nxA l k2 = k3 at *
  generalize hk4 : nxA l k3 = k4 at *
  generalize hk5 : nxA l k4 = k5 at *
  have m1 : IntKind.i64.wrap (nxV l k1 8 * 16) = nxV l k1 8 * 16 := w_in (by omega) (by omega)
  have m2 : IntKind.i64.wrap (nxV l k2 8 * 8) = nxV l k2 8 * 8 := w_in (by omega) (by omega)
  have m3 : IntKind.i64.wrap (255 - nxV l k2 8 * 8) = 255 - nxV l k2 8 * 8 := w_in (by omega) (by omega)
  have m4 : IntKind.i64.wrap (1 - s) = 1 - s := w_in (by omega) (by omega)
  have m5 : IntKind.i64.wrap (6 + nxV l k4 12) = 6 + nxV l k4 12 := w_in (by omega) (by omega)
  have m6 : IntKind.i64.wrap (nxV l k5 4 * 20) = nxV l k5 4 * 20 := w_in (by omega) (by omega)
  generalize hsix : decide (nxV l k 8 = 7) = six at *
  have r1 := e91 s 0 six hs0 (by omega) (by decide) (by decide)
  have r2 := e91 s 255 six hs0 (by omega) (by decide) (by decide)
  have r3 := e91 (1 - s) 0 six (by omega) (by omega) (by decide) (by decide)
  have r4 := e91 (1 - s) 255 six (by omega) (by omega) (by decide) (by decide)
  have r5 := e91 s (nxV l k1 8 * 16) six hs0 (by omega) (by omega) (by omega)
  have r6 := e91 s (255 - nxV l k2 8 * 8) six hs0 (by omega) (by omega) (by omega)
  have r7 := e91 (1 - s) (nxV l k1 8 * 16) six (by omega) (by omega) (by omega) (by omega)
  have r8 := e91 (1 - s) (255 - nxV l k2 8 * 8) six (by omega) (by omega) (by omega) (by omega)
  clear q1 q2 q12 q4 hs0 hs1 hB
  refine CV_run (vf := vf26) rfl rfl ?_
  rw [vf26_start]
  simp only [bx0]
  (repeat' (first
    | refine RX_seq ?_
    | refine RX_block ?_
    | ((first | refine RX_reg ?_ | refine RX_cond' ?_ | refine RX_draw0 ?_ | refine RX_draw rfl ?_ | refine RX_skip ?_ | refine RX_gfrz ?_ | refine RX_exit ?_ | refine RX_ret ?_); try (simp only [go_sem, Nat.max_zero, List.isEmpty_cons, Int.reduceToNat, Nat.reducePow, Int.reduceEq, Int.reduceNe, Int.reduceLT, Int.reduceLE, Nat.reduceAdd, Nat.reduceLeDiff, ↓reduceIte, Nat.reduceLT, Nat.reduceMul, Nat.reduceSub, reduceCtorEq, frzLoc, rowCells, vAppM, bne_self_eq_false, beq_self_eq_true, beq_true, beq_false, I, B, w, ibeq, ibne, bbeq, decide_eq_false_iff_not, decide_not, Bool.not_not, Decidable.not_not, Bool.not_eq_eq_eq_not, gt_iff_lt, ge_iff_le, and_false, false_and, or_self, and_self, vf26_res, vf26_keep, cx_len, cx_app, cx_own0, cx_own, cx_setOwn0, cx_setOwn, cx_take, cx_takeN, Nat.add_right_cancel_iff, Nat.lt_irrefl, cx_nlt, Nat.not_lt_zero, cx_get' h, cx_setId' h, cx_er h, cx_all0 h, cx_all h, CtxOk.lt h, CtxOk.ne0 h, *]))
    | (refine ite_ngo (fun _ => ?_) (fun _ => ?_) <;> try (simp only [go_sem, Nat.max_zero, List.isEmpty_cons, Int.reduceToNat, Nat.reducePow, Int.reduceEq, Int.reduceNe, Int.reduceLT, Int.reduceLE, Nat.reduceAdd, Nat.reduceLeDiff, ↓reduceIte, Nat.reduceLT, Nat.reduceMul, Nat.reduceSub, reduceCtorEq, frzLoc, rowCells, vAppM, bne_self_eq_false, beq_self_eq_true, beq_true, beq_false, I, B, w, ibeq, ibne, bbeq, decide_eq_false_iff_not, decide_not, Bool.not_not, Decidable.not_not, Bool.not_eq_eq_eq_not, gt_iff_lt, ge_iff_le, and_false, false_and, or_self, and_self, vf26_res, vf26_keep, cx_len, cx_app, cx_own0, cx_own, cx_setOwn0, cx_setOwn, cx_take, cx_takeN, Nat.add_right_cancel_iff, Nat.lt_irrefl, cx_nlt, Nat.not_lt_zero, cx_get' h, cx_setId' h, cx_er h, cx_all0 h, cx_all h, CtxOk.lt h, CtxOk.ne0 h, *]))
    | (refine ite_go (fun _ => ?_) (fun _ => ?_) <;> try (simp only [go_sem, Nat.max_zero, List.isEmpty_cons, Int.reduceToNat, Nat.reducePow, Int.reduceEq, Int.reduceNe, Int.reduceLT, Int.reduceLE, Nat.reduceAdd, Nat.reduceLeDiff, ↓reduceIte, Nat.reduceLT, Nat.reduceMul, Nat.reduceSub, reduceCtorEq, frzLoc, rowCells, vAppM, bne_self_eq_false, beq_self_eq_true, beq_true, beq_false, I, B, w, ibeq, ibne, bbeq, decide_eq_false_iff_not, decide_not, Bool.not_not, Decidable.not_not, Bool.not_eq_eq_eq_not, gt_iff_lt, ge_iff_le, and_false, false_and, or_self, and_self, vf26_res, vf26_keep, cx_len, cx_app, cx_own0, cx_own, cx_setOwn0, cx_setOwn, cx_take, cx_takeN, Nat.add_right_cancel_iff, Nat.lt_irrefl, cx_nlt, Nat.not_lt_zero, cx_get' h, cx_setId' h, cx_er h, cx_all0 h, cx_all h, CtxOk.lt h, CtxOk.ne0 h, *]))))
end Go.Proofs.Ytjhfakhmflemmaa

namespace Go.Proofs.Ytjhfakhmflemmaa
open Go.VM
def silver : ByteArray := ⟨#[115, 105, 108, 118, 101, 114]⟩
def gold : ByteArray := ⟨#[103, 111, 108, 100]⟩
section
variable {o1 xs : List (List V)} {j : Nat} {y : List V}
end
end Go.Proofs.Ytjhfakhmflemmaa

namespace Go.Proofs.Ytjhfakhmflemmaa
open Go.VM
end Go.Proofs.Ytjhfakhmflemmaa

namespace Go.Proofs.Ytjhfakhmflemmaa
open Go.VM
theorem toDs_map : ∀ ds : List D, toDs (ds.map .d) = some ds
  | [] => rfl
  | d :: ds => by simp [toDs, V.toD, toDs_map ds]
theorem chunk_flat {sz : Nat} : ∀ {ms : List (List D)}, (∀ r ∈ ms, r.length = sz) → chunk sz ms.length ms.flatten = ms
  | [], _ => rfl
  | r :: ms, h => by
    have hr := h r List.mem_cons_self
    rw [List.length_cons, chunk, List.flatten_cons, List.take_left' hr, List.drop_left' hr, chunk_flat fun r hr => h r (List.mem_cons_of_mem _ hr)]
end Go.Proofs.Ytjhfakhmflemmaa

namespace Go.Proofs.Ytjhfakhmflemmaa
open Go.VM
end Go.Proofs.Ytjhfakhmflemmaa

namespace Go.Proofs.Ytjhfakhmflemmaa
open Go.VM
def lessA (f h a f' h' b : Int) : Bool := if f = f' then (if h = h' then decide (a < b) else decide (h < h')) else decide (f < f')
theorem e109 (f h a f' h' b : Int) : CV VP 94 [.agg [.d (I f), .d (U h), .d (U a)], .agg [.d (I f'), .d (U h'), .d (U b)]] [] = some ⟨.d (B (lessA f h a f' h' b)), [], [], 0⟩ := by
  refine CV_run (vf := vf94) rfl rfl ?_
  rw [vf94_start]
  (repeat' (first
    | refine RX_seq ?_
    | refine RX_block ?_
    | ((first | refine RX_reg ?_ | refine RX_cond' ?_ | refine RX_draw0 ?_ | refine RX_draw rfl ?_ | refine RX_skip ?_ | refine RX_gfrz ?_ | refine RX_exit ?_ | refine RX_ret ?_); try (simp only [go_sem, Nat.max_zero, List.isEmpty_cons, Int.reduceToNat, Nat.reducePow, Int.reduceEq, Int.reduceNe, Int.reduceLT, Int.reduceLE, Nat.reduceAdd, Nat.reduceLeDiff, ↓reduceIte, Nat.reduceLT, Nat.reduceMul, Nat.reduceSub, reduceCtorEq, frzLoc, rowCells, vAppM, bne_self_eq_false, beq_self_eq_true, beq_true, beq_false, I, B, w, ibeq, ibne, bbeq, decide_eq_false_iff_not, decide_not, Bool.not_not, Decidable.not_not, Bool.not_eq_eq_eq_not, gt_iff_lt, ge_iff_le, and_false, false_and, or_self, and_self, vf94_res, vf94_keep, lessA, *]))
    | (refine ite_ngo (fun _ => ?_) (fun _ => ?_) <;> try (simp only [go_sem, Nat.max_zero, List.isEmpty_cons, Int.reduceToNat, Nat.reducePow, Int.reduceEq, Int.reduceNe, Int.reduceLT, Int.reduceLE, Nat.reduceAdd, Nat.reduceLeDiff, ↓reduceIte, Nat.reduceLT, Nat.reduceMul, Nat.reduceSub, reduceCtorEq, frzLoc, rowCells, vAppM, bne_self_eq_false, beq_self_eq_true, beq_true, beq_false, I, B, w, ibeq, ibne, bbeq, decide_eq_false_iff_not, decide_not, Bool.not_not, Decidable.not_not, Bool.not_eq_eq_eq_not, gt_iff_lt, ge_iff_le, and_false, false_and, or_self, and_self, vf94_res, vf94_keep, lessA, *]))
    | (refine ite_go (fun _ => ?_) (fun _ => ?_) <;> try (simp only [go_sem, Nat.max_zero, List.isEmpty_cons, Int.reduceToNat, Nat.reducePow, Int.reduceEq, Int.reduceNe, Int.reduceLT, Int.reduceLE, Nat.reduceAdd, Nat.reduceLeDiff, ↓reduceIte, Nat.reduceLT, Nat.reduceMul, Nat.reduceSub, reduceCtorEq, frzLoc, rowCells, vAppM, bne_self_eq_false, beq_self_eq_true, beq_true, beq_false, I, B, w, ibeq, ibne, bbeq, decide_eq_false_iff_not, decide_not, Bool.not_not, Decidable.not_not, Bool.not_eq_eq_eq_not, gt_iff_lt, ge_iff_le, and_false, false_and, or_self, and_self, vf94_res, vf94_keep, lessA, *]))))
theorem e123 (f h a f' h' b : Int) : CV VP 110 [.agg [.d (I f), .d (U h), .d (U a)], .agg [.d (I f'), .d (U h'), .d (U b)]] [] = some ⟨.d (B (lessA f h a f' h' b)), [], [], 0⟩ := by
  refine CV_run (vf := vf110) rfl rfl ?_
  rw [vf110_start]
  (repeat' (first
    | refine RX_seq ?_
    | refine RX_block ?_
    | ((first | refine RX_reg ?_ | refine RX_cond' ?_ | refine RX_draw0 ?_ | refine RX_draw rfl ?_ | refine RX_skip ?_ | refine RX_gfrz ?_ | refine RX_exit ?_ | refine RX_ret ?_); try (simp only [go_sem, Nat.max_zero, List.isEmpty_cons, Int.reduceToNat, Nat.reducePow, Int.reduceEq, Int.reduceNe, Int.reduceLT, Int.reduceLE, Nat.reduceAdd, Nat.reduceLeDiff, ↓reduceIte, Nat.reduceLT, Nat.reduceMul, Nat.reduceSub, reduceCtorEq, frzLoc, rowCells, vAppM, bne_self_eq_false, beq_self_eq_true, beq_true, beq_false, I, B, w, ibeq, ibne, bbeq, decide_eq_false_iff_not, decide_not, Bool.not_not, Decidable.not_not, Bool.not_eq_eq_eq_not, gt_iff_lt, ge_iff_le, and_false, false_and, or_self, and_self, vf110_res, vf110_keep, lessA, *]))
    | (refine ite_ngo (fun _ => ?_) (fun _ => ?_) <;> try (simp only [go_sem, Nat.max_zero, List.isEmpty_cons, Int.reduceToNat, Nat.reducePow, Int.reduceEq, Int.reduceNe, Int.reduceLT, Int.reduceLE, Nat.reduceAdd, Nat.reduceLeDiff, ↓reduceIte, Nat.reduceLT, Nat.reduceMul, Nat.reduceSub, reduceCtorEq, frzLoc, rowCells, vAppM, bne_self_eq_false, beq_self_eq_true, beq_true, beq_false, I, B, w, ibeq, ibne, bbeq, decide_eq_false_iff_not, decide_not, Bool.not_not, Decidable.not_not, Bool.not_eq_eq_eq_not, gt_iff_lt, ge_iff_le, and_false, false_and, or_self, and_self, vf110_res, vf110_keep, lessA, *]))
    | (refine ite_go (fun _ => ?_) (fun _ => ?_) <;> try (simp only [go_sem, Nat.max_zero, List.isEmpty_cons, Int.reduceToNat, Nat.reducePow, Int.reduceEq, Int.reduceNe, Int.reduceLT, Int.reduceLE, Nat.reduceAdd, Nat.reduceLeDiff, ↓reduceIte, Nat.reduceLT, Nat.reduceMul, Nat.reduceSub, reduceCtorEq, frzLoc, rowCells, vAppM, bne_self_eq_false, beq_self_eq_true, beq_true, beq_false, I, B, w, ibeq, ibne, bbeq, decide_eq_false_iff_not, decide_not, Bool.not_not, Decidable.not_not, Bool.not_eq_eq_eq_not, gt_iff_lt, ge_iff_le, and_false, false_and, or_self, and_self, vf110_res, vf110_keep, lessA, *]))))
theorem e108 (f h a f' h' b : Int) : CV VP 92 [.agg [.d (I f), .d (U h), .d (U a)], .agg [.d (I f'), .d (U h'), .d (U b)]] [] = some ⟨.d (B (lessA f h a f' h' b)), [], [], 0⟩ := by
  refine CV_run (vf := vf92) rfl rfl ?_
  rw [vf92_start]
  (repeat' (first
    | refine RX_seq ?_
    | refine RX_block ?_
    | ((first | refine RX_reg ?_ | refine RX_cond' ?_ | refine RX_draw0 ?_ | refine RX_draw rfl ?_ | refine RX_skip ?_ | refine RX_gfrz ?_ | refine RX_exit ?_ | refine RX_ret ?_); try (simp only [go_sem, Nat.max_zero, List.isEmpty_cons, Int.reduceToNat, Nat.reducePow, Int.reduceEq, Int.reduceNe, Int.reduceLT, Int.reduceLE, Nat.reduceAdd, Nat.reduceLeDiff, ↓reduceIte, Nat.reduceLT, Nat.reduceMul, Nat.reduceSub, reduceCtorEq, frzLoc, rowCells, vAppM, bne_self_eq_false, beq_self_eq_true, beq_true, beq_false, I, B, w, ibeq, ibne, bbeq, decide_eq_false_iff_not, decide_not, Bool.not_not, Decidable.not_not, Bool.not_eq_eq_eq_not, gt_iff_lt, ge_iff_le, and_false, false_and, or_self, and_self, vf92_res, vf92_keep, e123, *]))
    | (refine ite_ngo (fun _ => ?_) (fun _ => ?_) <;> try (simp only [go_sem, Nat.max_zero, List.isEmpty_cons, Int.reduceToNat, Nat.reducePow, Int.reduceEq, Int.reduceNe, Int.reduceLT, Int.reduceLE, Nat.reduceAdd, Nat.reduceLeDiff, ↓reduceIte, Nat.reduceLT, Nat.reduceMul, Nat.reduceSub, reduceCtorEq, frzLoc, rowCells, vAppM, bne_self_eq_false, beq_self_eq_true, beq_true, beq_false, I, B, w, ibeq, ibne, bbeq, decide_eq_false_iff_not, decide_not, Bool.not_not, Decidable.not_not, Bool.not_eq_eq_eq_not, gt_iff_lt, ge_iff_le, and_false, false_and, or_self, and_self, vf92_res, vf92_keep, e123, *]))
    | (refine ite_go (fun _ => ?_) (fun _ => ?_) <;> try (simp only [go_sem, Nat.max_zero, List.isEmpty_cons, Int.reduceToNat, Nat.reducePow, Int.reduceEq, Int.reduceNe, Int.reduceLT, Int.reduceLE, Nat.reduceAdd, Nat.reduceLeDiff, ↓reduceIte, Nat.reduceLT, Nat.reduceMul, Nat.reduceSub, reduceCtorEq, frzLoc, rowCells, vAppM, bne_self_eq_false, beq_self_eq_true, beq_true, beq_false, I, B, w, ibeq, ibne, bbeq, decide_eq_false_iff_not, decide_not, Bool.not_not, Decidable.not_not, Bool.not_eq_eq_eq_not, gt_iff_lt, ge_iff_le, and_false, false_and, or_self, and_self, vf92_res, vf92_keep, e123, *]))))
theorem e107 (f h a : Int) : CV VP 91 [.agg [.d (I f), .d (U h), .d (U a)]] [] = some ⟨.d (B (decide (validP f h a))), [], [], 0⟩ := by
  refine CV_run (vf := vf91) rfl rfl ?_
  rw [vf91_start]
  (repeat' (first
    | refine RX_seq ?_
    | refine RX_block ?_
    | ((first | refine RX_reg ?_ | refine RX_cond' ?_ | refine RX_draw0 ?_ | refine RX_draw rfl ?_ | refine RX_skip ?_ | refine RX_gfrz ?_ | refine RX_exit ?_ | refine RX_ret ?_); try (simp only [go_sem, Nat.max_zero, List.isEmpty_cons, Int.reduceToNat, Nat.reducePow, Int.reduceEq, Int.reduceNe, Int.reduceLT, Int.reduceLE, Nat.reduceAdd, Nat.reduceLeDiff, ↓reduceIte, Nat.reduceLT, Nat.reduceMul, Nat.reduceSub, reduceCtorEq, frzLoc, rowCells, vAppM, bne_self_eq_false, beq_self_eq_true, beq_true, beq_false, I, B, w, ibeq, ibne, bbeq, decide_eq_false_iff_not, decide_not, Bool.not_not, Decidable.not_not, Bool.not_eq_eq_eq_not, gt_iff_lt, ge_iff_le, and_false, false_and, or_self, and_self, vf91_res, vf91_keep, validP, *]))
    | (refine ite_ngo (fun _ => ?_) (fun _ => ?_) <;> try (simp only [go_sem, Nat.max_zero, List.isEmpty_cons, Int.reduceToNat, Nat.reducePow, Int.reduceEq, Int.reduceNe, Int.reduceLT, Int.reduceLE, Nat.reduceAdd, Nat.reduceLeDiff, ↓reduceIte, Nat.reduceLT, Nat.reduceMul, Nat.reduceSub, reduceCtorEq, frzLoc, rowCells, vAppM, bne_self_eq_false, beq_self_eq_true, beq_true, beq_false, I, B, w, ibeq, ibne, bbeq, decide_eq_false_iff_not, decide_not, Bool.not_not, Decidable.not_not, Bool.not_eq_eq_eq_not, gt_iff_lt, ge_iff_le, and_false, false_and, or_self, and_self, vf91_res, vf91_keep, validP, *]))
    | (refine ite_go (fun _ => ?_) (fun _ => ?_) <;> try (simp only [go_sem, Nat.max_zero, List.isEmpty_cons, Int.reduceToNat, Nat.reducePow, Int.reduceEq, Int.reduceNe, Int.reduceLT, Int.reduceLE, Nat.reduceAdd, Nat.reduceLeDiff, ↓reduceIte, Nat.reduceLT, Nat.reduceMul, Nat.reduceSub, reduceCtorEq, frzLoc, rowCells, vAppM, bne_self_eq_false, beq_self_eq_true, beq_true, beq_false, I, B, w, ibeq, ibne, bbeq, decide_eq_false_iff_not, decide_not, Bool.not_not, Decidable.not_not, Bool.not_eq_eq_eq_not, gt_iff_lt, ge_iff_le, and_false, false_and, or_self, and_self, vf91_res, vf91_keep, validP, *]))))
def rangeP (p q : Int) : Prop := -1 ≤ p ∧ q ≤ 65535 ∧ p ≤ q
instance (p q : Int) : Decidable (rangeP p q) := by unfold rangeP; infer_instance
theorem e110 (p q : Int) : CV VP 95 [.agg [.d (I p), .d (I q)]] [] = some ⟨.d (B (decide (rangeP p q))), [], [], 0⟩ := by
  refine CV_run (vf := vf95) rfl rfl ?_
  rw [vf95_start]
  (repeat' (first
    | refine RX_seq ?_
    | refine RX_block ?_
    | ((first | refine RX_reg ?_ | refine RX_cond' ?_ | refine RX_draw0 ?_ | refine RX_draw rfl ?_ | refine RX_skip ?_ | refine RX_gfrz ?_ | refine RX_exit ?_ | refine RX_ret ?_); try (simp only [go_sem, Nat.max_zero, List.isEmpty_cons, Int.reduceToNat, Nat.reducePow, Int.reduceEq, Int.reduceNe, Int.reduceLT, Int.reduceLE, Nat.reduceAdd, Nat.reduceLeDiff, ↓reduceIte, Nat.reduceLT, Nat.reduceMul, Nat.reduceSub, reduceCtorEq, frzLoc, rowCells, vAppM, bne_self_eq_false, beq_self_eq_true, beq_true, beq_false, I, B, w, ibeq, ibne, bbeq, decide_eq_false_iff_not, decide_not, Bool.not_not, Decidable.not_not, Bool.not_eq_eq_eq_not, gt_iff_lt, ge_iff_le, and_false, false_and, or_self, and_self, vf95_res, vf95_keep, rangeP, *]))
    | (refine ite_ngo (fun _ => ?_) (fun _ => ?_) <;> try (simp only [go_sem, Nat.max_zero, List.isEmpty_cons, Int.reduceToNat, Nat.reducePow, Int.reduceEq, Int.reduceNe, Int.reduceLT, Int.reduceLE, Nat.reduceAdd, Nat.reduceLeDiff, ↓reduceIte, Nat.reduceLT, Nat.reduceMul, Nat.reduceSub, reduceCtorEq, frzLoc, rowCells, vAppM, bne_self_eq_false, beq_self_eq_true, beq_true, beq_false, I, B, w, ibeq, ibne, bbeq, decide_eq_false_iff_not, decide_not, Bool.not_not, Decidable.not_not, Bool.not_eq_eq_eq_not, gt_iff_lt, ge_iff_le, and_false, false_and, or_self, and_self, vf95_res, vf95_keep, rangeP, *]))
    | (refine ite_go (fun _ => ?_) (fun _ => ?_) <;> try (simp only [go_sem, Nat.max_zero, List.isEmpty_cons, Int.reduceToNat, Nat.reducePow, Int.reduceEq, Int.reduceNe, Int.reduceLT, Int.reduceLE, Nat.reduceAdd, Nat.reduceLeDiff, ↓reduceIte, Nat.reduceLT, Nat.reduceMul, Nat.reduceSub, reduceCtorEq, frzLoc, rowCells, vAppM, bne_self_eq_false, beq_self_eq_true, beq_true, beq_false, I, B, w, ibeq, ibne, bbeq, decide_eq_false_iff_not, decide_not, Bool.not_not, Decidable.not_not, Bool.not_eq_eq_eq_not, gt_iff_lt, ge_iff_le, and_false, false_and, or_self, and_self, vf95_res, vf95_keep, rangeP, *]))))
/-- the answer to a box -/
def chk (f0 h0 a0 f1 h1 a1 f2 h2 a2 f3 h3 a3 p0 p1 l0 l1 r0 r1 : Int) : Int :=
  if validP f0 h0 a0 ∧ (validP f1 h1 a1 ∧ f1 = f0) ∧ (validP f2 h2 a2 ∧ f2 = f0) ∧ (validP f3 h3 a3 ∧ f3 = f0) then
    (if lessA f1 h1 a1 f0 h0 a0 = true ∨ lessA f3 h3 a3 f2 h2 a2 = true ∨ p0 < 0 ∨ 255 < p1 ∨ p1 < p0 ∨ ¬ rangeP l0 l1 ∨ ¬ rangeP r0 r1 then 5 else 0) else 15
set_option maxHeartbeats 4000000 in
theorem e90 (f0 h0 a0 f1 h1 a1 f2 h2 a2 f3 h3 a3 p0 p1 l0 l1 r0 r1 : Int) :
    CV VP 74 [.agg [.d (I f0), .d (U h0), .d (U a0), .d (I f1), .d (U h1), .d (U a1), .d (I f2), .d (U h2), .d (U a2), .d (I f3), .d (U h3), .d (U a3), .d (I p0), .d (I p1), .d (I l0), .d (I l1), .d (I r0), .d (I r1)]] [] =
      some ⟨.d (I (chk f0 h0 a0 f1 h1 a1 f2 h2 a2 f3 h3 a3 p0 p1 l0 l1 r0 r1)), [], [], 0⟩ := by
  have w0 : IntKind.i64.wrap (0 + 1) = 1 := rfl
  have w1 : IntKind.i64.wrap (1 + 1) = 2 := rfl
  have w2 : IntKind.i64.wrap (2 + 1) = 3 := rfl
  have w3 : IntKind.i64.wrap (3 + 1) = 4 := rfl
  refine CV_run (vf := vf74) rfl rfl ?_
  rw [vf74_start]
  (repeat' (first
    | refine RX_seq ?_
    | refine RX_block ?_
    | ((first | refine RX_reg ?_ | refine RX_cond' ?_ | refine RX_draw0 ?_ | refine RX_draw rfl ?_ | refine RX_skip ?_ | refine RX_gfrz ?_ | refine RX_exit ?_ | refine RX_ret ?_); try (simp only [go_sem, Nat.max_zero, List.isEmpty_cons, Int.reduceToNat, Nat.reducePow, Int.reduceEq, Int.reduceNe, Int.reduceLT, Int.reduceLE, Nat.reduceAdd, Nat.reduceLeDiff, ↓reduceIte, Nat.reduceLT, Nat.reduceMul, Nat.reduceSub, reduceCtorEq, frzLoc, rowCells, vAppM, bne_self_eq_false, beq_self_eq_true, beq_true, beq_false, I, B, w, ibeq, ibne, bbeq, decide_eq_false_iff_not, decide_not, Bool.not_not, Decidable.not_not, Bool.not_eq_eq_eq_not, gt_iff_lt, ge_iff_le, and_false, false_and, or_self, and_self, vf74_res, vf74_keep, chk, e83, e109, e110, *]))
    | (refine ite_ngo (fun _ => ?_) (fun _ => ?_) <;> try (simp only [go_sem, Nat.max_zero, List.isEmpty_cons, Int.reduceToNat, Nat.reducePow, Int.reduceEq, Int.reduceNe, Int.reduceLT, Int.reduceLE, Nat.reduceAdd, Nat.reduceLeDiff, ↓reduceIte, Nat.reduceLT, Nat.reduceMul, Nat.reduceSub, reduceCtorEq, frzLoc, rowCells, vAppM, bne_self_eq_false, beq_self_eq_true, beq_true, beq_false, I, B, w, ibeq, ibne, bbeq, decide_eq_false_iff_not, decide_not, Bool.not_not, Decidable.not_not, Bool.not_eq_eq_eq_not, gt_iff_lt, ge_iff_le, and_false, false_and, or_self, and_self, vf74_res, vf74_keep, chk, e83, e109, e110, *]))
    | (refine ite_go (fun _ => ?_) (fun _ => ?_) <;> try (simp only [go_sem, Nat.max_zero, List.isEmpty_cons, Int.reduceToNat, Nat.reducePow, Int.reduceEq, Int.reduceNe, Int.reduceLT, Int.reduceLE, Nat.reduceAdd, Nat.reduceLeDiff, ↓reduceIte, Nat.reduceLT, Nat.reduceMul, Nat.reduceSub, reduceCtorEq, frzLoc, rowCells, vAppM, bne_self_eq_false, beq_self_eq_true, beq_true, beq_false, I, B, w, ibeq, ibne, bbeq, decide_eq_false_iff_not, decide_not, Bool.not_not, Decidable.not_not, Bool.not_eq_eq_eq_not, gt_iff_lt, ge_iff_le, and_false, false_and, or_self, and_self, vf74_res, vf74_keep, chk, e83, e109, e110, *]))
    | (refine RL_head ?_; simp only [go_sem, Nat.max_zero, List.isEmpty_cons, Int.reduceToNat, Nat.reducePow, Int.reduceEq, Int.reduceNe, Int.reduceLT, Int.reduceLE, Nat.reduceAdd, Nat.reduceLeDiff, ↓reduceIte, Nat.reduceLT, Nat.reduceMul, Nat.reduceSub, reduceCtorEq, frzLoc, rowCells, vAppM, bne_self_eq_false, beq_self_eq_true, beq_true, beq_false, I, B, w, ibeq, ibne, bbeq, decide_eq_false_iff_not, decide_not, Bool.not_not, Decidable.not_not, Bool.not_eq_eq_eq_not, gt_iff_lt, ge_iff_le, and_false, false_and, or_self, and_self, vf74_res, vf74_keep, chk, e83, e109, e110, *, St.head, forget, vf74K0, RLK_some]; refine vf74L0_go ?_)
    | refine RX_loop ?_))
end Go.Proofs.Ytjhfakhmflemmaa

namespace Go.Proofs.Ytjhfakhmflemmaa
open Go.VM
theorem rangeP_alt (p q : Int) : rangeP p q = (¬ p < -1 ∧ ¬ 65535 < q ∧ ¬ q < p) := by
  unfold rangeP; simp only [Int.not_lt]
set_option maxHeartbeats 4000000 in
theorem e88 (f0 h0 a0 f1 h1 a1 f2 h2 a2 f3 h3 a3 p0 p1 l0 l1 r0 r1 : Int) :
    CV VP 72 [.agg [.d (I f0), .d (U h0), .d (U a0), .d (I f1), .d (U h1), .d (U a1), .d (I f2), .d (U h2), .d (U a2), .d (I f3), .d (U h3), .d (U a3), .d (I p0), .d (I p1), .d (I l0), .d (I l1), .d (I r0), .d (I r1)]] [] =
      some ⟨.d (I (chk f0 h0 a0 f1 h1 a1 f2 h2 a2 f3 h3 a3 p0 p1 l0 l1 r0 r1)), [], [], 0⟩ := by
  have w0 : IntKind.i64.wrap (0 + 1) = 1 := rfl
  have w1 : IntKind.i64.wrap (1 + 1) = 2 := rfl
  have w2 : IntKind.i64.wrap (2 + 1) = 3 := rfl
  have w3 : IntKind.i64.wrap (3 + 1) = 4 := rfl
  refine CV_run (vf := vf72) rfl rfl ?_
  rw [vf72_start]
  (repeat' (first
    | refine RX_seq ?_
    | refine RX_block ?_
    | ((first | refine RX_reg ?_ | refine RX_cond' ?_ | refine RX_draw0 ?_ | refine RX_draw rfl ?_ | refine RX_skip ?_ | refine RX_gfrz ?_ | refine RX_exit ?_ | refine RX_ret ?_); try (simp only [go_sem, Nat.max_zero, List.isEmpty_cons, Int.reduceToNat, Nat.reducePow, Int.reduceEq, Int.reduceNe, Int.reduceLT, Int.reduceLE, Nat.reduceAdd, Nat.reduceLeDiff, ↓reduceIte, Nat.reduceLT, Nat.reduceMul, Nat.reduceSub, reduceCtorEq, frzLoc, rowCells, vAppM, bne_self_eq_false, beq_self_eq_true, beq_true, beq_false, I, B, w, ibeq, ibne, bbeq, decide_eq_false_iff_not, decide_not, Bool.not_not, Decidable.not_not, Bool.not_eq_eq_eq_not, gt_iff_lt, ge_iff_le, and_false, false_and, or_self, and_self, vf72_res, vf72_keep, chk, e107, e108, rangeP_alt, *]))
    | (refine ite_ngo (fun _ => ?_) (fun _ => ?_) <;> try (simp only [go_sem, Nat.max_zero, List.isEmpty_cons, Int.reduceToNat, Nat.reducePow, Int.reduceEq, Int.reduceNe, Int.reduceLT, Int.reduceLE, Nat.reduceAdd, Nat.reduceLeDiff, ↓reduceIte, Nat.reduceLT, Nat.reduceMul, Nat.reduceSub, reduceCtorEq, frzLoc, rowCells, vAppM, bne_self_eq_false, beq_self_eq_true, beq_true, beq_false, I, B, w, ibeq, ibne, bbeq, decide_eq_false_iff_not, decide_not, Bool.not_not, Decidable.not_not, Bool.not_eq_eq_eq_not, gt_iff_lt, ge_iff_le, and_false, false_and, or_self, and_self, vf72_res, vf72_keep, chk, e107, e108, rangeP_alt, *]))
    | (refine ite_go (fun _ => ?_) (fun _ => ?_) <;> try (simp only [go_sem, Nat.max_zero, List.isEmpty_cons, Int.reduceToNat, Nat.reducePow, Int.reduceEq, Int.reduceNe, Int.reduceLT, Int.reduceLE, Nat.reduceAdd, Nat.reduceLeDiff, ↓reduceIte, Nat.reduceLT, Nat.reduceMul, Nat.reduceSub, reduceCtorEq, frzLoc, rowCells, vAppM, bne_self_eq_false, beq_self_eq_true, beq_true, beq_false, I, B, w, ibeq, ibne, bbeq, decide_eq_false_iff_not, decide_not, Bool.not_not, Decidable.not_not, Bool.not_eq_eq_eq_not, gt_iff_lt, ge_iff_le, and_false, false_and, or_self, and_self, vf72_res, vf72_keep, chk, e107, e108, rangeP_alt, *]))
    | (refine RL_head ?_; simp only [go_sem, Nat.max_zero, List.isEmpty_cons, Int.reduceToNat, Nat.reducePow, Int.reduceEq, Int.reduceNe, Int.reduceLT, Int.reduceLE, Nat.reduceAdd, Nat.reduceLeDiff, ↓reduceIte, Nat.reduceLT, Nat.reduceMul, Nat.reduceSub, reduceCtorEq, frzLoc, rowCells, vAppM, bne_self_eq_false, beq_self_eq_true, beq_true, beq_false, I, B, w, ibeq, ibne, bbeq, decide_eq_false_iff_not, decide_not, Bool.not_not, Decidable.not_not, Bool.not_eq_eq_eq_not, gt_iff_lt, ge_iff_le, and_false, false_and, or_self, and_self, vf72_res, vf72_keep, chk, e107, e108, rangeP_alt, *, St.head, forget, vf72K0, RLK_some]; refine vf72L0_go ?_)
    | (refine RL_head ?_; simp only [go_sem, Nat.max_zero, List.isEmpty_cons, Int.reduceToNat, Nat.reducePow, Int.reduceEq, Int.reduceNe, Int.reduceLT, Int.reduceLE, Nat.reduceAdd, Nat.reduceLeDiff, ↓reduceIte, Nat.reduceLT, Nat.reduceMul, Nat.reduceSub, reduceCtorEq, frzLoc, rowCells, vAppM, bne_self_eq_false, beq_self_eq_true, beq_true, beq_false, I, B, w, ibeq, ibne, bbeq, decide_eq_false_iff_not, decide_not, Bool.not_not, Decidable.not_not, Bool.not_eq_eq_eq_not, gt_iff_lt, ge_iff_le, and_false, false_and, or_self, and_self, vf72_res, vf72_keep, chk, e107, e108, rangeP_alt, *, St.head, forget, vf72K1, RLK_some]; refine vf72L1_go ?_)
    | refine RX_loop ?_))
end Go.Proofs.Ytjhfakhmflemmaa

namespace Go.Proofs.Ytjhfakhmflemmaa
open Go.VM
/-- a rule that may stand in a policy of the scenes -/
structure Ru.fine (r : Ru) : Prop where
  act : (r.act = 2 ∧ (r.tm = gold ∨ r.tm = silver)) ∨ ((r.act = 0 ∨ r.act = 1) ∧ r.tm = ⟨#[]⟩)
  pos : 0 < r.bs.length
  len : r.bs.length ≤ 16
  bs : ∀ b ∈ r.bs, b.ok ∧ b.fine
end Go.Proofs.Ytjhfakhmflemmaa

namespace Go.Proofs.Ytjhfakhmflemmaa
open Go.VM
/-- a gateway -/
structure Gw where
  id : Int
  peer : Int
  loc : Int
  rem : Int
  rules : List Ru
  groups : List Int
  now : Int
  count : Int
  guard : Tm
  vault : Tm
  redir : Int
  half : List (List D)
  sas : List (List D)
  kids : List (List D)
  tickets : List (List D)
def numRow (n : Int) : List D := [I n]
abbrev Gw.cells (g : Gw) : List D := [I g.id, I g.peer, I g.loc, I g.rem, .sl (g.rules.map Ru.row), .sl (g.groups.map numRow), I g.now, I g.count, I g.guard.op, I g.guard.val, .sl (g.guard.args.map Tm.row), I g.vault.op, I g.vault.val, .sl (g.vault.args.map Tm.row), I g.redir, .sl g.half, .sl g.sas, .sl g.kids, .sl g.tickets]
abbrev Gw.ag (g : Gw) : V := .agg (g.cells.map .d)
def gNm (a b : Int) : Tm := .mk 2 (w (w (a * 1048576) + b)) []
theorem gNm_op (a b : Int) : (gNm a b).op = 2 := rfl
theorem gNm_val (a b : Int) : (gNm a b).val = w (w (a * 1048576) + b) := rfl
theorem gNm_args (a b : Int) : (gNm a b).args = [] := rfl
theorem e16 (g : Gw) : CV VP 85 [g.ag] [] = some ⟨.tup [({ g with count := w (g.count + 1) } : Gw).ag, (gNm g.id (w (g.count + 1))).ag], [], [], 0⟩ := by
  simp only [Gw.ag, Gw.cells, List.map_cons, List.map_nil, Tm.ag, gNm_op, gNm_val, gNm_args]
  refine CV_run (vf := vf85) rfl rfl ?_
  rw [vf85_start]
  (repeat' (first
    | refine RX_seq ?_
    | refine RX_block ?_
    | ((first | refine RX_reg ?_ | refine RX_cond' ?_ | refine RX_draw0 ?_ | refine RX_draw rfl ?_ | refine RX_skip ?_ | refine RX_gfrz ?_ | refine RX_exit ?_ | refine RX_ret ?_); try (simp only [go_sem, Nat.max_zero, List.isEmpty_cons, Int.reduceToNat, Nat.reducePow, Int.reduceEq, Int.reduceNe, Int.reduceLT, Int.reduceLE, Nat.reduceAdd, Nat.reduceLeDiff, ↓reduceIte, Nat.reduceLT, Nat.reduceMul, Nat.reduceSub, reduceCtorEq, frzLoc, rowCells, vAppM, bne_self_eq_false, beq_self_eq_true, beq_true, beq_false, I, B, w, ibeq, ibne, bbeq, decide_eq_false_iff_not, decide_not, Bool.not_not, Decidable.not_not, Bool.not_eq_eq_eq_not, gt_iff_lt, ge_iff_le, and_false, false_and, or_self, and_self, vf85_res, vf85_keep, e70, *]))
    | (refine ite_ngo (fun _ => ?_) (fun _ => ?_) <;> try (simp only [go_sem, Nat.max_zero, List.isEmpty_cons, Int.reduceToNat, Nat.reducePow, Int.reduceEq, Int.reduceNe, Int.reduceLT, Int.reduceLE, Nat.reduceAdd, Nat.reduceLeDiff, ↓reduceIte, Nat.reduceLT, Nat.reduceMul, Nat.reduceSub, reduceCtorEq, frzLoc, rowCells, vAppM, bne_self_eq_false, beq_self_eq_true, beq_true, beq_false, I, B, w, ibeq, ibne, bbeq, decide_eq_false_iff_not, decide_not, Bool.not_not, Decidable.not_not, Bool.not_eq_eq_eq_not, gt_iff_lt, ge_iff_le, and_false, false_and, or_self, and_self, vf85_res, vf85_keep, e70, *]))
    | (refine ite_go (fun _ => ?_) (fun _ => ?_) <;> try (simp only [go_sem, Nat.max_zero, List.isEmpty_cons, Int.reduceToNat, Nat.reducePow, Int.reduceEq, Int.reduceNe, Int.reduceLT, Int.reduceLE, Nat.reduceAdd, Nat.reduceLeDiff, ↓reduceIte, Nat.reduceLT, Nat.reduceMul, Nat.reduceSub, reduceCtorEq, frzLoc, rowCells, vAppM, bne_self_eq_false, beq_self_eq_true, beq_true, beq_false, I, B, w, ibeq, ibne, bbeq, decide_eq_false_iff_not, decide_not, Bool.not_not, Decidable.not_not, Bool.not_eq_eq_eq_not, gt_iff_lt, ge_iff_le, and_false, false_and, or_self, and_self, vf85_res, vf85_keep, e70, *]))))
end Go.Proofs.Ytjhfakhmflemmaa

namespace Go.Proofs.Ytjhfakhmflemmaa
open Go.VM
end Go.Proofs.Ytjhfakhmflemmaa
