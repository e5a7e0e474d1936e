/- Drawn terms and parts on the machine, and how tickets are opened. Conditions: none. -/
import Derived.Test.YtknbgkfojmedpaaGreatVd
import Derived.Test.YtknbgkfojmedpaaGreatRaa
set_option linter.unusedSimpArgs false
namespace Go.Proofs.YtknbgkfojmedpaaGreat
open Go.VM
theorem e29b {l : List Int} (hB : Bytes l) (id k : Nat) {n : Int} (hn : 0 < n) (hn2 : n ≤ 256) : ∀ bl, CtxOk bl id →
    CV VP 16 [.ptr id 0, .d (I n)] (cx bl id l (k : Nat) []) = some ⟨.d (I (nxV l k n)), cx bl id l (nxA l k : Nat) [], [], 0⟩ := by
  intro bl h
  refine CV_run (vf := vf16) rfl rfl ?_
  rw [vf16_start]
  by_cases hk : k < l.length
  · have hk2 : ¬ ((k : Int) ≥ (l.length : Int)) := by omega
    have hz := List.getElem?_eq_getElem hk
    have hzb := hB.mem _ (List.getElem_mem hk)
    have hv : nxV l k n = l[k] * n / 256 := by rw [nxV, dif_pos hk]
    have ha : nxA l k = k + 1 := by rw [nxA, if_pos hk]
    rw [hv, ha]
    generalize l[k] = z at hz hzb
    have hzn : 0 ≤ z * n ∧ z * n ≤ 65280 := ⟨Int.mul_nonneg hzb.1 (by omega), by
      calc z * n ≤ 255 * 256 := Int.mul_le_mul hzb.2 hn2 (by omega) (by decide)
        _ = 65280 := by decide⟩
    have w1 := w_nat (Nat.lt_trans hk hB.len)
    have w2 : IntKind.i64.wrap (((k + 1 : Nat) : Int) - 1) = (k : Int) := by rw [w_in (by omega) (by have := hB.len; omega)]; omega
    have w3 : IntKind.i64.wrap z = z := w_in (by omega) (by omega)
    have w4 : IntKind.i64.wrap (z * n) = z * n := w_in (by omega) (by omega)
    have w5 : IntKind.i64.wrap ((z * n).tdiv 256) = z * n / 256 := by
      rw [Int.tdiv_eq_ediv_of_nonneg hzn.1, w_in (by omega) (by omega)]
    (repeat (first
    | refine RX_seq ?_
    | refine RX_block ?_
    | ((first | refine RX_reg ?_ | refine RX_cond' ?_ | refine RX_draw0 ?_ | refine RX_draw rfl ?_ | refine RX_skip ?_ | refine RX_gfrz ?_ | refine RX_exit ?_ | refine RX_ret ?_); try (simp only [go_sem, Nat.max_zero, List.isEmpty_cons, Int.reduceToNat, Nat.reducePow, Int.reduceEq, Int.reduceNe, Int.reduceLT, Int.reduceLE, Nat.reduceAdd, Nat.reduceLeDiff, ↓reduceIte, Nat.reduceLT, Nat.reduceMul, Nat.reduceSub, reduceCtorEq, frzLoc, rowCells, vAppM, beq_iff_eq, bne_iff_ne, bne_self_eq_false, beq_self_eq_true, beq_true, beq_false, I, B, w, cx_len, cx_app, cx_own0, cx_own, cx_setOwn0, cx_setOwn, cx_take, cx_takeN, Nat.add_right_cancel_iff, Nat.lt_irrefl, cx_nlt, Nat.not_lt_zero, cx_get' h, cx_setId' h, cx_er h, cx_all0 h, cx_all h, CtxOk.lt h, CtxOk.ne0 h, hk2, hk, hz, w1, w2, w3, w4, w5, List.length_map, List.getElem?_map, byteRow, vf16_res, vf16_keep]))))
  · have hk2 : (k : Int) ≥ (l.length : Int) := by omega
    have hv : nxV l k n = 0 := by rw [nxV, dif_neg hk]
    have ha : nxA l k = k := by rw [nxA, if_neg hk]
    rw [hv, ha]
    (repeat (first
    | refine RX_seq ?_
    | refine RX_block ?_
    | ((first | refine RX_reg ?_ | refine RX_cond' ?_ | refine RX_draw0 ?_ | refine RX_draw rfl ?_ | refine RX_skip ?_ | refine RX_gfrz ?_ | refine RX_exit ?_ | refine RX_ret ?_); try (simp only [go_sem, Nat.max_zero, List.isEmpty_cons, Int.reduceToNat, Nat.reducePow, Int.reduceEq, Int.reduceNe, Int.reduceLT, Int.reduceLE, Nat.reduceAdd, Nat.reduceLeDiff, ↓reduceIte, Nat.reduceLT, Nat.reduceMul, Nat.reduceSub, reduceCtorEq, frzLoc, rowCells, vAppM, beq_iff_eq, bne_iff_ne, bne_self_eq_false, beq_self_eq_true, beq_true, beq_false, I, B, w, cx_len, cx_app, cx_own0, cx_own, cx_setOwn0, cx_setOwn, cx_take, cx_takeN, Nat.add_right_cancel_iff, Nat.lt_irrefl, cx_nlt, Nat.not_lt_zero, cx_get' h, cx_setId' h, cx_er h, cx_all0 h, cx_all h, CtxOk.lt h, CtxOk.ne0 h, hk2, hk, List.length_map, vf16_res, vf16_keep]))))
theorem e29 {l : List Int} (hB : Bytes l) {bl : List (List V)} {id k : Nat} {own : List (List V)} {n : Int} (h : CtxOk bl id) (hn : 0 < n) (hn2 : n ≤ 256) (he : own.map V.erL = own) (hl : own.all (V.ltbL (bl.length + own.length)) = true) :
    CV VP 16 [.ptr id 0, .d (I n)] (cx bl id l (k : Nat) own) = some ⟨.d (I (nxV l k n)), cx bl id l (nxA l k : Nat) own, [], 0⟩ :=
  cx_lift (e29b hB id k hn hn2) h he hl
end Go.Proofs.YtknbgkfojmedpaaGreat
namespace Go.Proofs.YtknbgkfojmedpaaGreat
open Go.VM
theorem e21 {l : List Int} (n : Nat) (hn : n < 1000) : CV VP 14 [.d (byteD l), .d (I n)] [] = some ⟨.ptr 0 0, [[.sl 1 ((l.take n).map byteRow) (.own 0 0), .d (I 0)]], [0], 1⟩ := by
  have hall : (l.map byteRow).all (fun r => r.length == 1) = true := by
    rw [List.all_eq_true]
    intro r hr
    obtain ⟨z, _, rfl⟩ := List.mem_map.1 hr
    rfl
  have hall2 : ((l.take n).map byteRow).all (fun r => r.length == 1) = true := by
    rw [List.all_eq_true]
    intro r hr
    obtain ⟨z, _, rfl⟩ := List.mem_map.1 hr
    rfl
  refine CV_run (vf := vf14) rfl rfl ?_
  rw [vf14_start]
  have hall3 : (List.take n (l.map byteRow)).all (fun r => r.length == 1) = true := by rw [← List.map_take]; exact hall2
  by_cases h : (n : Int) < l.length
  · have h1 : ((n : Int) ≤ (l.length : Int)) := by omega
    have h2 : min n l.length ≤ 4294967296 := by omega
    (repeat (first
    | refine RX_seq ?_
    | refine RX_block ?_
    | ((first | refine RX_reg ?_ | refine RX_cond' ?_ | refine RX_draw0 ?_ | refine RX_draw rfl ?_ | refine RX_skip ?_ | refine RX_gfrz ?_ | refine RX_exit ?_ | refine RX_ret ?_); try (simp only [go_sem, Nat.max_zero, List.isEmpty_cons, Int.reduceToNat, Nat.reducePow, Int.reduceEq, Int.reduceNe, Int.reduceLT, Int.reduceLE, Nat.reduceAdd, Nat.reduceLeDiff, ↓reduceIte, Nat.reduceLT, Nat.reduceMul, Nat.reduceSub, reduceCtorEq, frzLoc, rowCells, vAppM, beq_iff_eq, bne_iff_ne, bne_self_eq_false, beq_self_eq_true, beq_true, beq_false, I, B, w, vf14_res, vf14_keep, byteD, h, h1, h2, hall, hall3, vSlice, vBounds, List.length_map, List.map_take, List.length_take]))))
  · have h3 : l.take n = l := List.take_of_length_le (by omega)
    have h2 : l.length ≤ 4294967296 ∨ True := .inr trivial
    have h4 : l.length ≤ 4294967296 := by omega
    have h5 : List.take l.length (l.map byteRow) = l.map byteRow := List.take_of_length_le (by simp)
    rw [h3]
    (repeat (first
    | refine RX_seq ?_
    | refine RX_block ?_
    | ((first | refine RX_reg ?_ | refine RX_cond' ?_ | refine RX_draw0 ?_ | refine RX_draw rfl ?_ | refine RX_skip ?_ | refine RX_gfrz ?_ | refine RX_exit ?_ | refine RX_ret ?_); try (simp only [go_sem, Nat.max_zero, List.isEmpty_cons, Int.reduceToNat, Nat.reducePow, Int.reduceEq, Int.reduceNe, Int.reduceLT, Int.reduceLE, Nat.reduceAdd, Nat.reduceLeDiff, ↓reduceIte, Nat.reduceLT, Nat.reduceMul, Nat.reduceSub, reduceCtorEq, frzLoc, rowCells, vAppM, beq_iff_eq, bne_iff_ne, bne_self_eq_false, beq_self_eq_true, beq_true, beq_false, I, B, w, vf14_res, vf14_keep, byteD, h, h4, h5, hall, vSlice, vBounds, List.length_map, Int.le_refl]))))
end Go.Proofs.YtknbgkfojmedpaaGreat
namespace Go.Proofs.YtknbgkfojmedpaaGreat
open Go.VM
structure NX (R : List (List D)) (nx : Int → Int → Int) (na : Int → Int) : Prop where
  nn : ∀ k, 0 ≤ na k
  rng : ∀ k n, 0 < n → 0 ≤ nx k n ∧ nx k n < n
  call : ∀ (k n : Int) (rest : List (List V)), 0 ≤ k → 0 < n → n ≤ 256 → rest.map V.erL = rest → rest.all (V.ltbL (1 + rest.length)) = true →
    CV VP 16 [.ptr 0 0, .d (I n)] ([.d (.sl R), .d (I k)] :: rest) = some ⟨.d (I (nx k n)), [.d (.sl R), .d (I (na k))] :: rest, [], 0⟩
theorem nx_of {l : List Int} (hB : Bytes l) : NX (l.map byteRow) (fun k n => nxV l k.toNat n) (fun k => (nxA l k.toNat : Nat)) where
  nn := fun k => Int.natCast_nonneg _
  rng := fun k n hn => nxV_range hB hn
  call := fun k n rest hk hn hn2 he hl => by
    have h := e29 hB (bl := [[]]) (id := 0) (k := k.toNat) (own := rest) CtxOk.base hn hn2 (by simpa using he) (by simpa using hl)
    rw [Int.toNat_of_nonneg hk] at h
    exact h
abbrev qT (a : Int) : Bool × Bool := (eqF a a, true)
abbrev qN (a : Int) : Bool × Bool := ((!(eqF a a)), false)
theorem eqF_self (a : Int) : eqF a a = true := by rw [eqF_eq]; simp
theorem okT {a : Int} {l : List (Bool × Bool)} (h : OKs l) : OKs (qT a :: l) := .cons (eqF_self a) h
theorem okN {a : Int} {l : List (Bool × Bool)} (h : OKs l) : OKs (qN a :: l) := .cons (by rw [eqF_self]; rfl) h
end Go.Proofs.YtknbgkfojmedpaaGreat
namespace Go.Proofs.YtknbgkfojmedpaaGreat
open Go.VM
def Rows3 (rows : List (List D)) : Prop := rows.length ≤ 4294967296 ∧ rows.all (fun r => r.length == 3) = true
theorem e76 (n : Int) : CV VP 65 [.d (I n)] [] = some ⟨.agg [.d (I 1), .d (I n), .d (.sl [])], [], [], 0⟩ := by
  refine CV_run (vf := vf65) rfl rfl ?_
  rw [vf65_start]
  (repeat (first
    | refine RX_seq ?_
    | refine RX_block ?_
    | ((first | refine RX_reg ?_ | refine RX_cond' ?_ | refine RX_draw0 ?_ | refine RX_draw rfl ?_ | refine RX_skip ?_ | refine RX_gfrz ?_ | refine RX_exit ?_ | refine RX_ret ?_); try (simp only [go_sem, Nat.max_zero, List.isEmpty_cons, Int.reduceToNat, Nat.reducePow, Int.reduceEq, Int.reduceNe, Int.reduceLT, Int.reduceLE, Nat.reduceAdd, Nat.reduceLeDiff, ↓reduceIte, Nat.reduceLT, Nat.reduceMul, Nat.reduceSub, reduceCtorEq, frzLoc, rowCells, vAppM, beq_iff_eq, bne_iff_ne, bne_self_eq_false, beq_self_eq_true, beq_true, beq_false, I, B, w, vf65_res, vf65_keep]))))
theorem e72 (n : Int) : CV VP 116 [.d (I n)] [] = some ⟨.agg [.d (I 1), .d (I n), .d (.sl [])], [], [], 0⟩ := by
  refine CV_run (vf := vf116) rfl rfl ?_
  rw [vf116_start]
  (repeat (first
    | refine RX_seq ?_
    | refine RX_block ?_
    | ((first | refine RX_reg ?_ | refine RX_cond' ?_ | refine RX_draw0 ?_ | refine RX_draw rfl ?_ | refine RX_skip ?_ | refine RX_gfrz ?_ | refine RX_exit ?_ | refine RX_ret ?_); try (simp only [go_sem, Nat.max_zero, List.isEmpty_cons, Int.reduceToNat, Nat.reducePow, Int.reduceEq, Int.reduceNe, Int.reduceLT, Int.reduceLE, Nat.reduceAdd, Nat.reduceLeDiff, ↓reduceIte, Nat.reduceLT, Nat.reduceMul, Nat.reduceSub, reduceCtorEq, frzLoc, rowCells, vAppM, beq_iff_eq, bne_iff_ne, bne_self_eq_false, beq_self_eq_true, beq_true, beq_false, I, B, w, vf116_res, vf116_keep]))))
theorem e70 (a b : Int) : CV VP 56 [.d (I a), .d (I b)] [] = some ⟨.agg [.d (I 2), .d (I (w (w (a * 1048576) + b))), .d (.sl [])], [], [], 0⟩ := by
  refine CV_run (vf := vf56) rfl rfl ?_
  rw [vf56_start]
  (repeat (first
    | refine RX_seq ?_
    | refine RX_block ?_
    | ((first | refine RX_reg ?_ | refine RX_cond' ?_ | refine RX_draw0 ?_ | refine RX_draw rfl ?_ | refine RX_skip ?_ | refine RX_gfrz ?_ | refine RX_exit ?_ | refine RX_ret ?_); try (simp only [go_sem, Nat.max_zero, List.isEmpty_cons, Int.reduceToNat, Nat.reducePow, Int.reduceEq, Int.reduceNe, Int.reduceLT, Int.reduceLE, Nat.reduceAdd, Nat.reduceLeDiff, ↓reduceIte, Nat.reduceLT, Nat.reduceMul, Nat.reduceSub, reduceCtorEq, frzLoc, rowCells, vAppM, beq_iff_eq, bne_iff_ne, bne_self_eq_false, beq_self_eq_true, beq_true, beq_false, I, B, w, vf56_res, vf56_keep]))))
theorem e33 {rows : List (List D)} (h : Rows3 rows) : CV VP 66 [.d (.sl rows)] [] = some ⟨.agg [.d (I 3), .d (I 0), .d (.sl rows)], [], [], 0⟩ := by
  refine CV_run (vf := vf66) rfl rfl ?_
  rw [vf66_start]
  (repeat (first
    | refine RX_seq ?_
    | refine RX_block ?_
    | ((first | refine RX_reg ?_ | refine RX_cond' ?_ | refine RX_draw0 ?_ | refine RX_draw rfl ?_ | refine RX_skip ?_ | refine RX_gfrz ?_ | refine RX_exit ?_ | refine RX_ret ?_); try (simp only [go_sem, Nat.max_zero, List.isEmpty_cons, Int.reduceToNat, Nat.reducePow, Int.reduceEq, Int.reduceNe, Int.reduceLT, Int.reduceLE, Nat.reduceAdd, Nat.reduceLeDiff, ↓reduceIte, Nat.reduceLT, Nat.reduceMul, Nat.reduceSub, reduceCtorEq, frzLoc, rowCells, vAppM, beq_iff_eq, bne_iff_ne, bne_self_eq_false, beq_self_eq_true, beq_true, beq_false, I, B, w, vf66_res, vf66_keep, h.1, h.2]))))
theorem e77 (a b c : D) : CV VP 67 [.agg [.d a, .d b, .d c]] [] = some ⟨.agg [.d (I 4), .d (I 0), .d (.sl [[a, b, c]])], [], [], 0⟩ := by
  refine CV_run (vf := vf67) rfl rfl ?_
  rw [vf67_start]
  (repeat (first
    | refine RX_seq ?_
    | refine RX_block ?_
    | ((first | refine RX_reg ?_ | refine RX_cond' ?_ | refine RX_draw0 ?_ | refine RX_draw rfl ?_ | refine RX_skip ?_ | refine RX_gfrz ?_ | refine RX_exit ?_ | refine RX_ret ?_); try (simp only [go_sem, Nat.max_zero, List.isEmpty_cons, Int.reduceToNat, Nat.reducePow, Int.reduceEq, Int.reduceNe, Int.reduceLT, Int.reduceLE, Nat.reduceAdd, Nat.reduceLeDiff, ↓reduceIte, Nat.reduceLT, Nat.reduceMul, Nat.reduceSub, reduceCtorEq, frzLoc, rowCells, vAppM, beq_iff_eq, bne_iff_ne, bne_self_eq_false, beq_self_eq_true, beq_true, beq_false, I, B, w, vf67_res, vf67_keep]))))
theorem e79 (n : Int) {rows : List (List D)} (h : Rows3 rows) : CV VP 69 [.d (I n), .d (.sl rows)] [] = some ⟨.agg [.d (I 6), .d (I n), .d (.sl rows)], [], [], 0⟩ := by
  refine CV_run (vf := vf69) rfl rfl ?_
  rw [vf69_start]
  (repeat (first
    | refine RX_seq ?_
    | refine RX_block ?_
    | ((first | refine RX_reg ?_ | refine RX_cond' ?_ | refine RX_draw0 ?_ | refine RX_draw rfl ?_ | refine RX_skip ?_ | refine RX_gfrz ?_ | refine RX_exit ?_ | refine RX_ret ?_); try (simp only [go_sem, Nat.max_zero, List.isEmpty_cons, Int.reduceToNat, Nat.reducePow, Int.reduceEq, Int.reduceNe, Int.reduceLT, Int.reduceLE, Nat.reduceAdd, Nat.reduceLeDiff, ↓reduceIte, Nat.reduceLT, Nat.reduceMul, Nat.reduceSub, reduceCtorEq, frzLoc, rowCells, vAppM, beq_iff_eq, bne_iff_ne, bne_self_eq_false, beq_self_eq_true, beq_true, beq_false, I, B, w, vf69_res, vf69_keep, h.1, h.2]))))
theorem e80 (n : Int) (a b c : D) : CV VP 70 [.d (I n), .agg [.d a, .d b, .d c]] [] = some ⟨.agg [.d (I 8), .d (I n), .d (.sl [[a, b, c]])], [], [], 0⟩ := by
  refine CV_run (vf := vf70) rfl rfl ?_
  rw [vf70_start]
  (repeat (first
    | refine RX_seq ?_
    | refine RX_block ?_
    | ((first | refine RX_reg ?_ | refine RX_cond' ?_ | refine RX_draw0 ?_ | refine RX_draw rfl ?_ | refine RX_skip ?_ | refine RX_gfrz ?_ | refine RX_exit ?_ | refine RX_ret ?_); try (simp only [go_sem, Nat.max_zero, List.isEmpty_cons, Int.reduceToNat, Nat.reducePow, Int.reduceEq, Int.reduceNe, Int.reduceLT, Int.reduceLE, Nat.reduceAdd, Nat.reduceLeDiff, ↓reduceIte, Nat.reduceLT, Nat.reduceMul, Nat.reduceSub, reduceCtorEq, frzLoc, rowCells, vAppM, beq_iff_eq, bne_iff_ne, bne_self_eq_false, beq_self_eq_true, beq_true, beq_false, I, B, w, vf70_res, vf70_keep]))))
theorem e57 (a b c x y z : D) : CV VP 20 [.agg [.d a, .d b, .d c], .agg [.d x, .d y, .d z]] [] = some ⟨.agg [.d (I 7), .d (I 0), .d (.sl [[a, b, c], [x, y, z]])], [], [], 0⟩ := by
  refine CV_run (vf := vf20) rfl rfl ?_
  rw [vf20_start]
  (repeat (first
    | refine RX_seq ?_
    | refine RX_block ?_
    | ((first | refine RX_reg ?_ | refine RX_cond' ?_ | refine RX_draw0 ?_ | refine RX_draw rfl ?_ | refine RX_skip ?_ | refine RX_gfrz ?_ | refine RX_exit ?_ | refine RX_ret ?_); try (simp only [go_sem, Nat.max_zero, List.isEmpty_cons, Int.reduceToNat, Nat.reducePow, Int.reduceEq, Int.reduceNe, Int.reduceLT, Int.reduceLE, Nat.reduceAdd, Nat.reduceLeDiff, ↓reduceIte, Nat.reduceLT, Nat.reduceMul, Nat.reduceSub, reduceCtorEq, frzLoc, rowCells, vAppM, beq_iff_eq, bne_iff_ne, bne_self_eq_false, beq_self_eq_true, beq_true, beq_false, I, B, w, vf20_res, vf20_keep]))))
end Go.Proofs.YtknbgkfojmedpaaGreat
namespace Go.Proofs.YtknbgkfojmedpaaGreat
open Go.VM
theorem e121n (a b : Int) : CV VP 223 [.agg [.d (I 2), .d (I a), .d (.sl [])], .agg [.d (I 2), .d (I b), .d (.sl [])]] [] = some ⟨.d (I (if a < b then -1 else if b < a then 1 else 0)), [], [], 0⟩ := by
  refine CV_run (vf := vf223) rfl rfl ?_
  rw [vf223_start]
  by_cases h1 : a < b
  · (repeat (first
    | refine RX_seq ?_
    | refine RX_block ?_
    | ((first | refine RX_reg ?_ | refine RX_cond' ?_ | refine RX_draw0 ?_ | refine RX_draw rfl ?_ | refine RX_skip ?_ | refine RX_gfrz ?_ | refine RX_exit ?_ | refine RX_ret ?_); try (simp only [go_sem, Nat.max_zero, List.isEmpty_cons, Int.reduceToNat, Nat.reducePow, Int.reduceEq, Int.reduceNe, Int.reduceLT, Int.reduceLE, Nat.reduceAdd, Nat.reduceLeDiff, ↓reduceIte, Nat.reduceLT, Nat.reduceMul, Nat.reduceSub, reduceCtorEq, frzLoc, rowCells, vAppM, beq_iff_eq, bne_iff_ne, bne_self_eq_false, beq_self_eq_true, beq_true, beq_false, I, B, w, vf223_res, vf223_keep, h1, gt_iff_lt]))))
  · by_cases h2 : b < a
    · (repeat (first
    | refine RX_seq ?_
    | refine RX_block ?_
    | ((first | refine RX_reg ?_ | refine RX_cond' ?_ | refine RX_draw0 ?_ | refine RX_draw rfl ?_ | refine RX_skip ?_ | refine RX_gfrz ?_ | refine RX_exit ?_ | refine RX_ret ?_); try (simp only [go_sem, Nat.max_zero, List.isEmpty_cons, Int.reduceToNat, Nat.reducePow, Int.reduceEq, Int.reduceNe, Int.reduceLT, Int.reduceLE, Nat.reduceAdd, Nat.reduceLeDiff, ↓reduceIte, Nat.reduceLT, Nat.reduceMul, Nat.reduceSub, reduceCtorEq, frzLoc, rowCells, vAppM, beq_iff_eq, bne_iff_ne, bne_self_eq_false, beq_self_eq_true, beq_true, beq_false, I, B, w, vf223_res, vf223_keep, h1, h2, gt_iff_lt]))))
    · (repeat (first
    | refine RX_seq ?_
    | refine RX_block ?_
    | ((first | refine RX_reg ?_ | refine RX_cond' ?_ | refine RX_draw0 ?_ | refine RX_draw rfl ?_ | refine RX_skip ?_ | refine RX_gfrz ?_ | refine RX_exit ?_ | refine RX_ret ?_); try (simp only [go_sem, Nat.max_zero, List.isEmpty_cons, Int.reduceToNat, Nat.reducePow, Int.reduceEq, Int.reduceNe, Int.reduceLT, Int.reduceLE, Nat.reduceAdd, Nat.reduceLeDiff, ↓reduceIte, Nat.reduceLT, Nat.reduceMul, Nat.reduceSub, reduceCtorEq, frzLoc, rowCells, vAppM, beq_iff_eq, bne_iff_ne, bne_self_eq_false, beq_self_eq_true, beq_true, beq_false, I, B, w, vf223_res, vf223_keep, h1, h2, gt_iff_lt]))))
      refine RX_loop ?_
      refine RL_head ?_
      (simp only [go_sem, Nat.max_zero, List.isEmpty_cons, Int.reduceToNat, Nat.reducePow, Int.reduceEq, Int.reduceNe, Int.reduceLT, Int.reduceLE, Nat.reduceAdd, Nat.reduceLeDiff, ↓reduceIte, Nat.reduceLT, Nat.reduceMul, Nat.reduceSub, reduceCtorEq, frzLoc, rowCells, vAppM, beq_iff_eq, bne_iff_ne, bne_self_eq_false, beq_self_eq_true, beq_true, beq_false, I, B, w, St.head, forget, vf223K0, RLK_some])
      unfold vf223L0
      (repeat (first
    | refine RX_seq ?_
    | refine RX_block ?_
    | ((first | refine RX_reg ?_ | refine RX_cond' ?_ | refine RX_draw0 ?_ | refine RX_draw rfl ?_ | refine RX_skip ?_ | refine RX_gfrz ?_ | refine RX_exit ?_ | refine RX_ret ?_); try (simp only [go_sem, Nat.max_zero, List.isEmpty_cons, Int.reduceToNat, Nat.reducePow, Int.reduceEq, Int.reduceNe, Int.reduceLT, Int.reduceLE, Nat.reduceAdd, Nat.reduceLeDiff, ↓reduceIte, Nat.reduceLT, Nat.reduceMul, Nat.reduceSub, reduceCtorEq, frzLoc, rowCells, vAppM, beq_iff_eq, bne_iff_ne, bne_self_eq_false, beq_self_eq_true, beq_true, beq_false, I, B, w, vf223_res, vf223_keep, h1, h2]))))
theorem e104n (a b : Int) : CV VP 162 [.agg [.d (I 2), .d (I a), .d (.sl [])], .agg [.d (I 2), .d (I b), .d (.sl [])]] [] = some ⟨.d (B (decide (a < b))), [], [], 0⟩ := by
  have h := e121n a b
  refine CV_run (vf := vf162) rfl rfl ?_
  rw [vf162_start]
  by_cases h1 : a < b
  · rw [if_pos h1] at h
    (repeat (first
    | refine RX_seq ?_
    | refine RX_block ?_
    | ((first | refine RX_reg ?_ | refine RX_cond' ?_ | refine RX_draw0 ?_ | refine RX_draw rfl ?_ | refine RX_skip ?_ | refine RX_gfrz ?_ | refine RX_exit ?_ | refine RX_ret ?_); try (simp only [go_sem, Nat.max_zero, List.isEmpty_cons, Int.reduceToNat, Nat.reducePow, Int.reduceEq, Int.reduceNe, Int.reduceLT, Int.reduceLE, Nat.reduceAdd, Nat.reduceLeDiff, ↓reduceIte, Nat.reduceLT, Nat.reduceMul, Nat.reduceSub, reduceCtorEq, frzLoc, rowCells, vAppM, beq_iff_eq, bne_iff_ne, bne_self_eq_false, beq_self_eq_true, beq_true, beq_false, I, B, w, vf162_res, vf162_keep, h, h1]))))
  · rw [if_neg h1] at h
    by_cases h2 : b < a
    · rw [if_pos h2] at h
      (repeat (first
    | refine RX_seq ?_
    | refine RX_block ?_
    | ((first | refine RX_reg ?_ | refine RX_cond' ?_ | refine RX_draw0 ?_ | refine RX_draw rfl ?_ | refine RX_skip ?_ | refine RX_gfrz ?_ | refine RX_exit ?_ | refine RX_ret ?_); try (simp only [go_sem, Nat.max_zero, List.isEmpty_cons, Int.reduceToNat, Nat.reducePow, Int.reduceEq, Int.reduceNe, Int.reduceLT, Int.reduceLE, Nat.reduceAdd, Nat.reduceLeDiff, ↓reduceIte, Nat.reduceLT, Nat.reduceMul, Nat.reduceSub, reduceCtorEq, frzLoc, rowCells, vAppM, beq_iff_eq, bne_iff_ne, bne_self_eq_false, beq_self_eq_true, beq_true, beq_false, I, B, w, vf162_res, vf162_keep, h, h1]))))
    · rw [if_neg h2] at h
      (repeat (first
    | refine RX_seq ?_
    | refine RX_block ?_
    | ((first | refine RX_reg ?_ | refine RX_cond' ?_ | refine RX_draw0 ?_ | refine RX_draw rfl ?_ | refine RX_skip ?_ | refine RX_gfrz ?_ | refine RX_exit ?_ | refine RX_ret ?_); try (simp only [go_sem, Nat.max_zero, List.isEmpty_cons, Int.reduceToNat, Nat.reducePow, Int.reduceEq, Int.reduceNe, Int.reduceLT, Int.reduceLE, Nat.reduceAdd, Nat.reduceLeDiff, ↓reduceIte, Nat.reduceLT, Nat.reduceMul, Nat.reduceSub, reduceCtorEq, frzLoc, rowCells, vAppM, beq_iff_eq, bne_iff_ne, bne_self_eq_false, beq_self_eq_true, beq_true, beq_false, I, B, w, vf162_res, vf162_keep, h, h1]))))
theorem e78n (a b : Int) : CV VP 68 [.agg [.d (I 4), .d (I 0), .d (.sl [[I 2, I a, .sl []]])], .agg [.d (I 2), .d (I b), .d (.sl [])]] [] =
    some ⟨.tup [.agg [.d (I 5), .d (I 0), .d (.sl [[I 2, I (min a b), .sl []], [I 2, I (max a b), .sl []]])], .d (B true)], [], [], 0⟩ := by
  have h := e104n b a
  refine CV_run (vf := vf68) rfl rfl ?_
  rw [vf68_start]
  by_cases h1 : b < a
  · have m1 : min a b = b := by omega
    have m2 : max a b = a := by omega
    rw [m1, m2]
    (repeat (first
    | refine RX_seq ?_
    | refine RX_block ?_
    | ((first | refine RX_reg ?_ | refine RX_cond' ?_ | refine RX_draw0 ?_ | refine RX_draw rfl ?_ | refine RX_skip ?_ | refine RX_gfrz ?_ | refine RX_exit ?_ | refine RX_ret ?_); try (simp only [go_sem, Nat.max_zero, List.isEmpty_cons, Int.reduceToNat, Nat.reducePow, Int.reduceEq, Int.reduceNe, Int.reduceLT, Int.reduceLE, Nat.reduceAdd, Nat.reduceLeDiff, ↓reduceIte, Nat.reduceLT, Nat.reduceMul, Nat.reduceSub, reduceCtorEq, frzLoc, rowCells, vAppM, beq_iff_eq, bne_iff_ne, bne_self_eq_false, beq_self_eq_true, beq_true, beq_false, I, B, w, vf68_res, vf68_keep, h, h1]))))
  · have m1 : min a b = a := by omega
    have m2 : max a b = b := by omega
    rw [m1, m2]
    (repeat (first
    | refine RX_seq ?_
    | refine RX_block ?_
    | ((first | refine RX_reg ?_ | refine RX_cond' ?_ | refine RX_draw0 ?_ | refine RX_draw rfl ?_ | refine RX_skip ?_ | refine RX_gfrz ?_ | refine RX_exit ?_ | refine RX_ret ?_); try (simp only [go_sem, Nat.max_zero, List.isEmpty_cons, Int.reduceToNat, Nat.reducePow, Int.reduceEq, Int.reduceNe, Int.reduceLT, Int.reduceLE, Nat.reduceAdd, Nat.reduceLeDiff, ↓reduceIte, Nat.reduceLT, Nat.reduceMul, Nat.reduceSub, reduceCtorEq, frzLoc, rowCells, vAppM, beq_iff_eq, bne_iff_ne, bne_self_eq_false, beq_self_eq_true, beq_true, beq_false, I, B, w, vf68_res, vf68_keep, h, h1]))))
end Go.Proofs.YtknbgkfojmedpaaGreat
namespace Go.Proofs.YtknbgkfojmedpaaGreat
open Go.VM
def nmV (l : List Int) (k : Nat) : Int := nxV l k 3 * 1048576 + (1 + nxV l (nxA l k) 5)
theorem e68b {l : List Int} (hB : Bytes l) (id k : Nat) : ∀ bl, CtxOk bl id →
    CV VP 46 [.ptr id 0] (cx bl id l (k : Nat) []) = some ⟨.agg [.d (I 2), .d (I (nmV l k)), .d (.sl [])], cx bl id l (nxA l (nxA l k) : Nat) [], [], 0⟩ := by
  intro bl h
  have c3 : ∀ (k : Nat) (own : List (List V)), own.map V.erL = own → own.all (V.ltbL (bl.length + own.length)) = true → CV VP 16 [.ptr id 0, .d (I 3)] (cx bl id l (k : Nat) own) = some ⟨.d (I (nxV l k 3)), cx bl id l (nxA l k : Nat) own, [], 0⟩ := fun k own => e29 hB h (by decide) (by decide)
  have c5 : ∀ (k : Nat) (own : List (List V)), own.map V.erL = own → own.all (V.ltbL (bl.length + own.length)) = true → CV VP 16 [.ptr id 0, .d (I 5)] (cx bl id l (k : Nat) own) = some ⟨.d (I (nxV l k 5)), cx bl id l (nxA l k : Nat) own, [], 0⟩ := fun k own => e29 hB h (by decide) (by decide)
  have r1 := nxV_range hB (k := k) (n := 3) (by decide)
  have r2 := nxV_range hB (k := nxA l k) (n := 5) (by decide)
  have w1 : IntKind.i64.wrap (1 + nxV l (nxA l k) 5) = 1 + nxV l (nxA l k) 5 := w_in (by omega) (by omega)
  have w2 : IntKind.i64.wrap (nxV l k 3 * 1048576) = nxV l k 3 * 1048576 := w_in (by omega) (by omega)
  have w3 : IntKind.i64.wrap (nxV l k 3 * 1048576 + (1 + nxV l (nxA l k) 5)) = nmV l k := w_in (by omega) (by omega)
  refine CV_run (vf := vf46) rfl rfl ?_
  rw [vf46_start]
  (repeat (first
    | refine RX_seq ?_
    | refine RX_block ?_
    | ((first | refine RX_reg ?_ | refine RX_cond' ?_ | refine RX_draw0 ?_ | refine RX_draw rfl ?_ | refine RX_skip ?_ | refine RX_gfrz ?_ | refine RX_exit ?_ | refine RX_ret ?_); try (simp only [go_sem, Nat.max_zero, List.isEmpty_cons, Int.reduceToNat, Nat.reducePow, Int.reduceEq, Int.reduceNe, Int.reduceLT, Int.reduceLE, Nat.reduceAdd, Nat.reduceLeDiff, ↓reduceIte, Nat.reduceLT, Nat.reduceMul, Nat.reduceSub, reduceCtorEq, frzLoc, rowCells, vAppM, beq_iff_eq, bne_iff_ne, bne_self_eq_false, beq_self_eq_true, beq_true, beq_false, I, B, w, vf46_res, vf46_keep, cx_len, cx_app, cx_own0, cx_own, cx_setOwn0, cx_setOwn, cx_take, cx_takeN, Nat.add_right_cancel_iff, Nat.lt_irrefl, cx_nlt, Nat.not_lt_zero, cx_get' h, cx_setId' h, cx_er h, cx_all0 h, cx_all h, CtxOk.lt h, CtxOk.ne0 h, c3, c5, e70, w1, w2, w3, Nat.not_lt_zero]))))
end Go.Proofs.YtknbgkfojmedpaaGreat
namespace Go.Proofs.YtknbgkfojmedpaaGreat
open Go.VM
def leafO (l : List Int) (k : Nat) : Int := if nxV l k 12 % 4 = 0 then 1 else if nxV l k 12 % 4 = 3 then 9 else 2
def leafV (l : List Int) (k : Nat) : Int := if nxV l k 12 % 4 = 0 then nxV l (nxA l k) 6 else if nxV l k 12 % 4 = 3 then nxV l (nxA l k) 3 else nmV l (nxA l k)
def leafA (l : List Int) (k : Nat) : Nat := if nxV l k 12 % 4 = 0 then nxA l (nxA l k) else if nxV l k 12 % 4 = 3 then nxA l (nxA l k) else nxA l (nxA l (nxA l k))
theorem e32_1b {l : List Int} (hB : Bytes l) (id k : Nat) : ∀ bl, CtxOk bl id →
    CV VP 21 [.ptr id 0, .d (I 1)] (cx bl id l (k : Nat) []) = some ⟨.agg [.d (I (leafO l k)), .d (I (leafV l k)), .d (.sl [])], cx bl id l (leafA l k : Nat) [], [], 0⟩ := by
  intro bl h
  have cN : ∀ (n : Int), 0 < n → n ≤ 256 → ∀ (k : Nat) (own : List (List V)), own.map V.erL = own → own.all (V.ltbL (bl.length + own.length)) = true → CV VP 16 [.ptr id 0, .d (I n)] (cx bl id l (k : Nat) own) = some ⟨.d (I (nxV l k n)), cx bl id l (nxA l k : Nat) own, [], 0⟩ := fun n h1 h2 k own => e29 hB h h1 h2
  have c12 := cN 12 (by decide) (by decide)
  have c6 := cN 6 (by decide) (by decide)
  have c3 := cN 3 (by decide) (by decide)
  have cM : ∀ (k : Nat) (own : List (List V)), own.map V.erL = own → own.all (V.ltbL (bl.length + own.length)) = true → CV VP 46 [.ptr id 0] (cx bl id l (k : Nat) own) = some ⟨.agg [.d (I 2), .d (I (nmV l k)), .d (.sl [])], cx bl id l (nxA l (nxA l k) : Nat) own, [], 0⟩ := fun k own => cx_lift (e68b hB id k) h
  have r := nxV_range hB (k := k) (n := 12) (by decide)
  have hv : nxV l k 12 = 0 ∨ nxV l k 12 = 1 ∨ nxV l k 12 = 2 ∨ nxV l k 12 = 3 ∨ nxV l k 12 = 4 ∨ nxV l k 12 = 5 ∨ nxV l k 12 = 6 ∨ nxV l k 12 = 7 ∨ nxV l k 12 = 8 ∨ nxV l k 12 = 9 ∨ nxV l k 12 = 10 ∨ nxV l k 12 = 11 := by omega
  clear r cN
  refine CV_run (vf := vf21) rfl rfl ?_
  rw [vf21_start]
  rcases hv with hv | hv | hv | hv | hv | hv | hv | hv | hv | hv | hv | hv <;>
  · simp only [leafO, leafV, leafA, hv, Int.reduceMod, Int.reduceEq, if_true, if_false]
    (repeat (first
    | refine RX_seq ?_
    | refine RX_block ?_
    | ((first | refine RX_reg ?_ | refine RX_cond' ?_ | refine RX_draw0 ?_ | refine RX_draw rfl ?_ | refine RX_skip ?_ | refine RX_gfrz ?_ | refine RX_exit ?_ | refine RX_ret ?_); try (simp only [go_sem, Nat.max_zero, List.isEmpty_cons, Int.reduceToNat, Nat.reducePow, Int.reduceEq, Int.reduceNe, Int.reduceLT, Int.reduceLE, Nat.reduceAdd, Nat.reduceLeDiff, ↓reduceIte, Nat.reduceLT, Nat.reduceMul, Nat.reduceSub, reduceCtorEq, frzLoc, rowCells, vAppM, beq_iff_eq, bne_iff_ne, bne_self_eq_false, beq_self_eq_true, beq_true, beq_false, I, B, w, vf21_res, vf21_keep, cx_len, cx_app, cx_own0, cx_own, cx_setOwn0, cx_setOwn, cx_take, cx_takeN, Nat.add_right_cancel_iff, Nat.lt_irrefl, cx_nlt, Nat.not_lt_zero, cx_get' h, cx_setId' h, cx_er h, cx_all0 h, cx_all h, CtxOk.lt h, CtxOk.ne0 h, c12, c6, c3, cM, hv, e76, gt_iff_lt, Int.reduceTMod]))))
end Go.Proofs.YtknbgkfojmedpaaGreat
namespace Go.Proofs.YtknbgkfojmedpaaGreat
open Go.VM
inductive Tm where
  | mk (op v : Int) (args : List Tm)
mutual
def Tm.row : Tm → List D
  | .mk op v args => [I op, I v, .sl (Tm.rows args)]
def Tm.rows : List Tm → List (List D)
  | [] => []
  | t :: ts => t.row :: Tm.rows ts
end
mutual
def Tm.eqb : Tm → Tm → Bool
  | .mk a b c, .mk x y z => a == x && (b == y && Tm.eqbs c z)
def Tm.eqbs : List Tm → List Tm → Bool
  | [], [] => true
  | t :: ts, u :: us => t.eqb u && Tm.eqbs ts us
  | _, _ => false
end
mutual
def Tm.small : Tm → Prop
  | .mk _ _ args => args.length < 1099511627776 ∧ Tm.smalls args
def Tm.smalls : List Tm → Prop
  | [] => True
  | t :: ts => t.small ∧ Tm.smalls ts
end
theorem Tm.rows_eq : ∀ ts : List Tm, Tm.rows ts = ts.map Tm.row
  | [] => rfl
  | t :: ts => by rw [Tm.rows, Tm.rows_eq ts]; rfl
theorem Tm.eqbs_drop {ts us : List Tm} {i : Nat} {t u : Tm} (h1 : ts[i]? = some t) (h2 : us[i]? = some u) : Tm.eqbs (ts.drop i) (us.drop i) = (t.eqb u && Tm.eqbs (ts.drop (i + 1)) (us.drop (i + 1))) := by
  have a := (List.getElem?_eq_some_iff.1 h1)
  have b := (List.getElem?_eq_some_iff.1 h2)
  obtain ⟨a1, a2⟩ := a
  obtain ⟨b1, b2⟩ := b
  rw [List.drop_eq_getElem_cons a1, List.drop_eq_getElem_cons b1, a2, b2, Tm.eqbs]
theorem Tm.smalls_mem : ∀ {ts : List Tm} {t : Tm}, Tm.smalls ts → t ∈ ts → t.small
  | t :: ts, u, h, hu => by
    rcases List.mem_cons.1 hu with rfl | hu
    · exact h.1
    · exact Tm.smalls_mem h.2 hu
theorem Tm.eqbs_len : ∀ {ts us : List Tm}, ts.length ≠ us.length → Tm.eqbs ts us = false
  | [], [], h => by simp at h
  | [], _ :: _, _ => rfl
  | _ :: _, [], _ => rfl
  | t :: ts, u :: us, h => by rw [Tm.eqbs, Tm.eqbs_len (by simpa using h), Bool.and_false]
theorem e19 : ∀ (n : Nat) (t u : Tm), SizeOf.sizeOf t < n → t.small → CV VP 42 [.agg (t.row.map .d), .agg (u.row.map .d)] [] = some ⟨.d (B (t.eqb u)), [], [], 0⟩
  | 0, t, u, h, _ => absurd h (Nat.not_lt_zero _)
  | n + 1, .mk a b ts, .mk x y us, hn, hs => by
    refine CV_run (vf := vf42) rfl rfl ?_
    rw [vf42_start]
    simp only [Tm.row, List.map_cons, List.map_nil, Tm.rows_eq]
    cases hax : (a != x) with
    | true =>
      (repeat (first
    | refine RX_seq ?_
    | refine RX_block ?_
    | ((first | refine RX_reg ?_ | refine RX_cond' ?_ | refine RX_draw0 ?_ | refine RX_draw rfl ?_ | refine RX_skip ?_ | refine RX_gfrz ?_ | refine RX_exit ?_ | refine RX_ret ?_); try (simp only [go_sem, Nat.max_zero, List.isEmpty_cons, Int.reduceToNat, Nat.reducePow, Int.reduceEq, Int.reduceNe, Int.reduceLT, Int.reduceLE, Nat.reduceAdd, Nat.reduceLeDiff, ↓reduceIte, Nat.reduceLT, Nat.reduceMul, Nat.reduceSub, reduceCtorEq, frzLoc, rowCells, vAppM, beq_iff_eq, bne_iff_ne, bne_self_eq_false, beq_self_eq_true, beq_true, beq_false, I, B, w, hax]))))
      (simp only [go_sem, Nat.max_zero, List.isEmpty_cons, Int.reduceToNat, Nat.reducePow, Int.reduceEq, Int.reduceNe, Int.reduceLT, Int.reduceLE, Nat.reduceAdd, Nat.reduceLeDiff, ↓reduceIte, Nat.reduceLT, Nat.reduceMul, Nat.reduceSub, reduceCtorEq, frzLoc, rowCells, vAppM, beq_iff_eq, bne_iff_ne, bne_self_eq_false, beq_self_eq_true, beq_true, beq_false, I, B, w, vf42, I, B, Tm.eqb])
      have : (a == x) = false := by simpa using hax
      rw [this]; rfl
    | false =>
    have hax' : (a == x) = true := by simpa using hax
    cases hby : (b != y) with
    | true =>
      (repeat (first
    | refine RX_seq ?_
    | refine RX_block ?_
    | ((first | refine RX_reg ?_ | refine RX_cond' ?_ | refine RX_draw0 ?_ | refine RX_draw rfl ?_ | refine RX_skip ?_ | refine RX_gfrz ?_ | refine RX_exit ?_ | refine RX_ret ?_); try (simp only [go_sem, Nat.max_zero, List.isEmpty_cons, Int.reduceToNat, Nat.reducePow, Int.reduceEq, Int.reduceNe, Int.reduceLT, Int.reduceLE, Nat.reduceAdd, Nat.reduceLeDiff, ↓reduceIte, Nat.reduceLT, Nat.reduceMul, Nat.reduceSub, reduceCtorEq, frzLoc, rowCells, vAppM, beq_iff_eq, bne_iff_ne, bne_self_eq_false, beq_self_eq_true, beq_true, beq_false, I, B, w, hax, hby]))))
      (simp only [go_sem, Nat.max_zero, List.isEmpty_cons, Int.reduceToNat, Nat.reducePow, Int.reduceEq, Int.reduceNe, Int.reduceLT, Int.reduceLE, Nat.reduceAdd, Nat.reduceLeDiff, ↓reduceIte, Nat.reduceLT, Nat.reduceMul, Nat.reduceSub, reduceCtorEq, frzLoc, rowCells, vAppM, beq_iff_eq, bne_iff_ne, bne_self_eq_false, beq_self_eq_true, beq_true, beq_false, I, B, w, vf42, I, B, Tm.eqb])
      have : (b == y) = false := by simpa using hby
      rw [this, Bool.false_and, Bool.and_false]
    | false =>
    have hby' : (b == y) = true := by simpa using hby
    cases hl : ((ts.length : Int) != us.length) with
    | true =>
      (repeat (first
    | refine RX_seq ?_
    | refine RX_block ?_
    | ((first | refine RX_reg ?_ | refine RX_cond' ?_ | refine RX_draw0 ?_ | refine RX_draw rfl ?_ | refine RX_skip ?_ | refine RX_gfrz ?_ | refine RX_exit ?_ | refine RX_ret ?_); try (simp only [go_sem, Nat.max_zero, List.isEmpty_cons, Int.reduceToNat, Nat.reducePow, Int.reduceEq, Int.reduceNe, Int.reduceLT, Int.reduceLE, Nat.reduceAdd, Nat.reduceLeDiff, ↓reduceIte, Nat.reduceLT, Nat.reduceMul, Nat.reduceSub, reduceCtorEq, frzLoc, rowCells, vAppM, beq_iff_eq, bne_iff_ne, bne_self_eq_false, beq_self_eq_true, beq_true, beq_false, I, B, w, hax, hby, hl, List.length_map]))))
      (simp only [go_sem, Nat.max_zero, List.isEmpty_cons, Int.reduceToNat, Nat.reducePow, Int.reduceEq, Int.reduceNe, Int.reduceLT, Int.reduceLE, Nat.reduceAdd, Nat.reduceLeDiff, ↓reduceIte, Nat.reduceLT, Nat.reduceMul, Nat.reduceSub, reduceCtorEq, frzLoc, rowCells, vAppM, beq_iff_eq, bne_iff_ne, bne_self_eq_false, beq_self_eq_true, beq_true, beq_false, I, B, w, vf42, I, B, Tm.eqb])
      have : ts.length ≠ us.length := by
        have : (ts.length : Int) ≠ us.length := by simpa using hl
        omega
      rw [Tm.eqbs_len this, Bool.and_false, Bool.and_false]
    | false =>
    have hlen : ts.length = us.length := by
      have : (ts.length : Int) = us.length := by simpa using hl
      omega
    (repeat (first
    | refine RX_seq ?_
    | refine RX_block ?_
    | ((first | refine RX_reg ?_ | refine RX_cond' ?_ | refine RX_draw0 ?_ | refine RX_draw rfl ?_ | refine RX_skip ?_ | refine RX_gfrz ?_ | refine RX_exit ?_ | refine RX_ret ?_); try (simp only [go_sem, Nat.max_zero, List.isEmpty_cons, Int.reduceToNat, Nat.reducePow, Int.reduceEq, Int.reduceNe, Int.reduceLT, Int.reduceLE, Nat.reduceAdd, Nat.reduceLeDiff, ↓reduceIte, Nat.reduceLT, Nat.reduceMul, Nat.reduceSub, reduceCtorEq, frzLoc, rowCells, vAppM, beq_iff_eq, bne_iff_ne, bne_self_eq_false, beq_self_eq_true, beq_true, beq_false, I, B, w, hax, hby, hl, List.length_map]))))
    refine RX_loop ?_
    refine RL_head ?_
    (simp only [go_sem, Nat.max_zero, List.isEmpty_cons, Int.reduceToNat, Nat.reducePow, Int.reduceEq, Int.reduceNe, Int.reduceLT, Int.reduceLE, Nat.reduceAdd, Nat.reduceLeDiff, ↓reduceIte, Nat.reduceLT, Nat.reduceMul, Nat.reduceSub, reduceCtorEq, frzLoc, rowCells, vAppM, beq_iff_eq, bne_iff_ne, bne_self_eq_false, beq_self_eq_true, beq_true, beq_false, I, B, w, St.head, forget, List.length_map, vf42K0, RLK_some])
    have hret : (Tm.mk a b ts).eqb (.mk x y us) = Tm.eqbs (ts.drop 0) (us.drop 0) := by rw [Tm.eqb, hax', hby']; rfl
    rw [hret]
    obtain ⟨hs1, hs2⟩ := hs
    suffices H : ∀ (m i : Nat), i + m = ts.length → RX VP vf42L0 ⟨(.any :: .any :: .ptr 0 0 :: .ptr 1 0 :: .any :: .d (.lit (.int .i64 (i : Int))) :: .any :: .any :: .any :: .any :: .any :: .any :: .any :: .any :: .any :: .any :: .any :: .any :: .any :: .any :: .any :: .any :: .any :: .any :: .any :: .any :: .any :: .any :: .any :: .any :: .any :: .any :: .any :: .any :: .any :: .any :: .any :: .any :: .any :: .any :: .any :: .any :: .any :: .any :: .any :: .any :: []),
        [[V.d (I a), V.d (I b), V.d (D.sl (List.map Tm.row ts))], [V.d (I x), V.d (I y), V.d (D.sl (List.map Tm.row us))]], [], 0, 0, 0⟩
        (again VP vf42K0 vf42L0 2 (outQ 0 (thn VP ((VCode.reg [{ dst := some 4, op := VOp.mov (VArg.c (V.d (D.lit (Value.bool true)))), guard := none }]).seq VCode.ret)
          (retQ vf42 0 { r := V.d (B (Tm.eqbs (ts.drop i) (us.drop i))), blocks := [], live := [], gn := 0 })))) from H ts.length 0 (Nat.zero_add _)
    intro m
    induction m with
    | zero =>
      intro i hi
      have h1 : ¬ i < ts.length := by omega
      unfold vf42L0
      (repeat (first
    | refine RX_seq ?_
    | refine RX_block ?_
    | ((first | refine RX_reg ?_ | refine RX_cond' ?_ | refine RX_draw0 ?_ | refine RX_draw rfl ?_ | refine RX_skip ?_ | refine RX_gfrz ?_ | refine RX_exit ?_ | refine RX_ret ?_); try (simp only [go_sem, Nat.max_zero, List.isEmpty_cons, Int.reduceToNat, Nat.reducePow, Int.reduceEq, Int.reduceNe, Int.reduceLT, Int.reduceLE, Nat.reduceAdd, Nat.reduceLeDiff, ↓reduceIte, Nat.reduceLT, Nat.reduceMul, Nat.reduceSub, reduceCtorEq, frzLoc, rowCells, vAppM, beq_iff_eq, bne_iff_ne, bne_self_eq_false, beq_self_eq_true, beq_true, beq_false, I, B, w, List.length_map, Int.ofNat_lt, h1, vf42_res, vf42_keep]))))
      rw [List.drop_eq_nil_of_le (by omega), List.drop_eq_nil_of_le (by omega)]
      rfl
    | succ m ih =>
      intro i hi
      have h1 : i < ts.length := by omega
      have h2 : i < us.length := by omega
      obtain ⟨t, ht⟩ : ∃ t, ts[i]? = some t := ⟨_, List.getElem?_eq_getElem h1⟩
      obtain ⟨u, hu⟩ : ∃ u, us[i]? = some u := ⟨_, List.getElem?_eq_getElem h2⟩
      have hc := e19 n t u (by
        have := List.sizeOf_lt_of_mem (List.mem_of_getElem? ht)
        simp only [Tm.mk.sizeOf_spec] at hn
        omega) (Tm.smalls_mem hs2 (List.mem_of_getElem? ht))
      have hrow : ∀ t : Tm, t.row.length = 3 := fun t => by cases t; rfl
      rw [Tm.eqbs_drop ht hu]
      cases he : t.eqb u with
      | false =>
        rw [he] at hc
        unfold vf42L0
        (repeat (first
    | refine RX_seq ?_
    | refine RX_block ?_
    | ((first | refine RX_reg ?_ | refine RX_cond' ?_ | refine RX_draw0 ?_ | refine RX_draw rfl ?_ | refine RX_skip ?_ | refine RX_gfrz ?_ | refine RX_exit ?_ | refine RX_ret ?_); try (simp only [go_sem, Nat.max_zero, List.isEmpty_cons, Int.reduceToNat, Nat.reducePow, Int.reduceEq, Int.reduceNe, Int.reduceLT, Int.reduceLE, Nat.reduceAdd, Nat.reduceLeDiff, ↓reduceIte, Nat.reduceLT, Nat.reduceMul, Nat.reduceSub, reduceCtorEq, frzLoc, rowCells, vAppM, beq_iff_eq, bne_iff_ne, bne_self_eq_false, beq_self_eq_true, beq_true, beq_false, I, B, w, List.length_map, Int.ofNat_lt, h1, h2, List.getElem?_map, ht, hu, vf42_res, vf42_keep, hrow, List.take_of_length_le, erL_d, ltbL_d, hc]))))
        rw [Bool.false_and]
      | true =>
        rw [he] at hc
        unfold vf42L0
        (repeat (first
    | refine RX_seq ?_
    | refine RX_block ?_
    | ((first | refine RX_reg ?_ | refine RX_cond' ?_ | refine RX_draw0 ?_ | refine RX_draw rfl ?_ | refine RX_skip ?_ | refine RX_gfrz ?_ | refine RX_exit ?_ | refine RX_ret ?_); try (simp only [go_sem, Nat.max_zero, List.isEmpty_cons, Int.reduceToNat, Nat.reducePow, Int.reduceEq, Int.reduceNe, Int.reduceLT, Int.reduceLE, Nat.reduceAdd, Nat.reduceLeDiff, ↓reduceIte, Nat.reduceLT, Nat.reduceMul, Nat.reduceSub, reduceCtorEq, frzLoc, rowCells, vAppM, beq_iff_eq, bne_iff_ne, bne_self_eq_false, beq_self_eq_true, beq_true, beq_false, I, B, w, List.length_map, Int.ofNat_lt, h1, h2, List.getElem?_map, ht, hu, vf42_res, vf42_keep, hrow, List.take_of_length_le, erL_d, ltbL_d, hc, w_nat (Nat.lt_trans h1 hs1)]))))
        refine RL_head ?_
        (simp only [go_sem, Nat.max_zero, List.isEmpty_cons, Int.reduceToNat, Nat.reducePow, Int.reduceEq, Int.reduceNe, Int.reduceLT, Int.reduceLE, Nat.reduceAdd, Nat.reduceLeDiff, ↓reduceIte, Nat.reduceLT, Nat.reduceMul, Nat.reduceSub, reduceCtorEq, frzLoc, rowCells, vAppM, beq_iff_eq, bne_iff_ne, bne_self_eq_false, beq_self_eq_true, beq_true, beq_false, I, B, w, St.head, forget, List.length_map, vf42K0, RLK_some])
        exact ih (i + 1) (by omega)
end Go.Proofs.YtknbgkfojmedpaaGreat
namespace Go.Proofs.YtknbgkfojmedpaaGreat
open Go.VM
end Go.Proofs.YtknbgkfojmedpaaGreat
namespace Go.Proofs.YtknbgkfojmedpaaGreat
open Go.VM
def Tm.op : Tm → Int | .mk a _ _ => a
def Tm.val : Tm → Int | .mk _ b _ => b
def Tm.args : Tm → List Tm | .mk _ _ c => c
theorem Tm.op_mk (a b : Int) (c : List Tm) : (Tm.mk a b c).op = a := rfl
theorem Tm.val_mk (a b : Int) (c : List Tm) : (Tm.mk a b c).val = b := rfl
theorem Tm.args_mk (a b : Int) (c : List Tm) : (Tm.mk a b c).args = c := rfl
theorem Tm.row_eq (t : Tm) : t.row = [I t.op, I t.val, .sl (t.args.map Tm.row)] := by cases t; rw [Tm.row, Tm.rows_eq]; rfl
theorem Tm.row_mk (a b : Int) (c : List Tm) : (Tm.mk a b c).row = [I a, I b, .sl (c.map Tm.row)] := by rw [Tm.row, Tm.rows_eq]
abbrev Tm.ag (t : Tm) : V := .agg [.d (I t.op), .d (I t.val), .d (.sl (t.args.map Tm.row))]
theorem Tm.rows3 (ts : List Tm) (h : ts.length ≤ 4294967296) : Rows3 (ts.map Tm.row) :=
  ⟨by simpa using h, by rw [List.all_eq_true]; intro r hr; obtain ⟨t, _, rfl⟩ := List.mem_map.1 hr; rw [Tm.row_eq]; rfl⟩
def nmT (l : List Int) (k : Nat) : Tm := .mk 2 (nmV l k) []
def nmA (l : List Int) (k : Nat) : Nat := nxA l (nxA l k)
def drT (l : List Int) : Nat → Nat → Tm × Nat
  | 0, k => (.mk (leafO l k) (leafV l k) [], leafA l k)
  | d + 1, k =>
    if nxV l k 12 ≤ 3 then (.mk (leafO l k) (leafV l k) [], leafA l k)
    else if nxV l k 12 ≤ 5 then (.mk 3 0 (drL (drT l d) (nxV l (nxA l k) 4).toNat (nxA l (nxA l k))).1, (drL (drT l d) (nxV l (nxA l k) 4).toNat (nxA l (nxA l k))).2)
    else if nxV l k 12 = 6 then (.mk 4 0 [nmT l (nxA l k)], nmA l (nxA l k))
    else if nxV l k 12 = 7 then (.mk 5 0 [.mk 2 (min (nmV l (nxA l k)) (nmV l (nmA l (nxA l k)))) [], .mk 2 (max (nmV l (nxA l k)) (nmV l (nmA l (nxA l k)))) []], nmA l (nmA l (nxA l k)))
    else if nxV l k 12 = 8 then (.mk 6 (1 + nxV l (nxA l k) 9) [(drT l d (nxA l (nxA l k))).1], (drT l d (nxA l (nxA l k))).2)
    else if nxV l k 12 ≤ 10 then (.mk 7 0 [(drT l d (nxA l k)).1, (drT l d (drT l d (nxA l k)).2).1], (drT l d (drT l d (nxA l k)).2).2)
    else (.mk 8 (nxV l (nxA l k) 3) [(drT l d (nxA l (nxA l k))).1], (drT l d (nxA l (nxA l k))).2)
end Go.Proofs.YtknbgkfojmedpaaGreat
namespace Go.Proofs.YtknbgkfojmedpaaGreat
open Go.VM
theorem L32 {l : List Int} {d id n bs : Nat} {bl : List (List V)} {dv : Int} {own : List (List V)} {Q : VExit → St → Prop} (h : CtxOk bl id) (hbs : (bs = 0) = False) (ho : own = [[.d (I 0), .d (I 0), .d (.sl [])]]) (hn : n = bl.length + 1) (hdv : IntKind.i64.wrap (dv - 1) = ((d + 1 : Nat) : Int))
    (cT : ∀ (k : Nat) (own : List (List V)), own.map V.erL = own → own.all (V.ltbL (bl.length + own.length)) = true → CV VP 21 [.ptr id 0, .d (I ((d + 1 : Nat) : Int))] (cx bl id l (k : Nat) own) = some ⟨(drT l d k).1.ag, cx bl id l ((drT l d k).2 : Nat) own, [], 0⟩) :
    ∀ (m k : Nat) (rows : List (List D)) (v : V) (live : List Nat) (gn : Nat), Acc 3 v live rows → rows.length + m < 1000 →
      (∀ v live gn, Acc 3 v live (rows ++ (drL (drT l d) m k).1.map Tm.row) → Q (.exit 1) ⟨(.ptr id 0 :: .d (I dv) :: .any :: .any :: .ptr bl.length 0 :: .any :: v :: .d (I 0) :: .any :: .any :: .any :: .any :: .any :: .any :: .any :: .any :: .any :: .any :: .any :: .any :: .any :: .any :: .any :: .any :: .any :: .any :: .any :: .any :: .any :: .any :: .any :: .any :: .any :: .any :: .any :: .any :: .any :: .any :: .any :: .any :: .any :: .d (I 0) :: .d (B false) :: .any :: .any :: .any :: .any :: .any :: .any :: .any :: .any :: .any :: .any :: .any :: .any :: .any :: .any :: .any :: .any :: .any :: .any :: .any :: .any :: .any :: .any :: .any :: .any :: .any :: .any :: .any :: .any :: .any :: .any :: .any :: .any :: .any :: .any :: .any :: .any :: .any :: .any :: .any :: .any :: .any :: .any :: .any :: .any :: .any :: .any :: .any :: .any :: .any :: .any :: .any :: .any :: .any :: .any :: .any :: .any :: .any :: .any :: []), cx bl id l ((drL (drT l d) m k).2 : Nat) own, live, gn, bs, 0⟩) →
      RX VP vf21L0 ⟨(.ptr id 0 :: .d (I dv) :: .any :: .any :: .ptr bl.length 0 :: .any :: v :: .d (I (m : Nat)) :: .any :: .any :: .any :: .any :: .any :: .any :: .any :: .any :: .any :: .any :: .any :: .any :: .any :: .any :: .any :: .any :: .any :: .any :: .any :: .any :: .any :: .any :: .any :: .any :: .any :: .any :: .any :: .any :: .any :: .any :: .any :: .any :: .any :: .any :: .any :: .any :: .any :: .any :: .any :: .any :: .any :: .any :: .any :: .any :: .any :: .any :: .any :: .any :: .any :: .any :: .any :: .any :: .any :: .any :: .any :: .any :: .any :: .any :: .any :: .any :: .any :: .any :: .any :: .any :: .any :: .any :: .any :: .any :: .any :: .any :: .any :: .any :: .any :: .any :: .any :: .any :: .any :: .any :: .any :: .any :: .any :: .any :: .any :: .any :: .any :: .any :: .any :: .any :: .any :: .any :: .any :: .any :: .any :: []), cx bl id l (k : Nat) own, live, gn, bs, 0⟩ (again VP vf21K0 vf21L0 n Q) := by
  subst ho
  subst hn
  have hid : id < bl.length + 1 := Nat.lt_succ_of_lt h.lt
  have hb1 : bl.length < bl.length + 1 := Nat.lt_succ_self _
  intro m
  induction m with
  | zero =>
    intro k rows v live gn hv hl hQ
    refine vf21L0_go ?_
    simp only [drL, List.map_nil, List.append_nil] at hQ
    (repeat (first
    | refine RX_seq ?_
    | refine RX_block ?_
    | ((first | refine RX_reg ?_ | refine RX_cond' ?_ | refine RX_draw0 ?_ | refine RX_draw rfl ?_ | refine RX_skip ?_ | refine RX_gfrz ?_ | refine RX_exit ?_ | refine RX_ret ?_); try (simp only [go_sem, Nat.max_zero, List.isEmpty_cons, Int.reduceToNat, Nat.reducePow, Int.reduceEq, Int.reduceNe, Int.reduceLT, Int.reduceLE, Nat.reduceAdd, Nat.reduceLeDiff, ↓reduceIte, Nat.reduceLT, Nat.reduceMul, Nat.reduceSub, reduceCtorEq, frzLoc, rowCells, vAppM, beq_iff_eq, bne_iff_ne, bne_self_eq_false, beq_self_eq_true, beq_true, beq_false, I, B, w, vf21_res, vf21_keep, gt_iff_lt]))))
    exact hQ _ _ _ hv
  | succ m ih =>
    intro k rows v live gn hv hl hQ
    have hm : (0 : Int) < ((m + 1 : Nat) : Int) := by omega
    have hwm : IntKind.i64.wrap (((m + 1 : Nat) : Int) - 1) = (m : Int) := by rw [w_in (by omega) (by omega)]; omega
    have hrl : rows.length + 1 ≤ 4294967296 := by omega
    have hrl2 : rows.length + 1 ≤ appBound := by unfold appBound; omega
    have hrow : Tm.row (drT l d k).1 = [I (drT l d k).1.op, I (drT l d k).1.val, .sl ((drT l d k).1.args.map Tm.row)] := Tm.row_eq _
    rcases hv with ⟨rfl, rfl, rfl⟩ | ⟨g, rfl, rfl⟩
    · refine vf21L0_go ?_
      (repeat (first
    | refine RX_seq ?_
    | refine RX_block ?_
    | ((first | refine RX_reg ?_ | refine RX_cond' ?_ | refine RX_draw0 ?_ | refine RX_draw rfl ?_ | refine RX_skip ?_ | refine RX_gfrz ?_ | refine RX_exit ?_ | refine RX_ret ?_); try (simp only [go_sem, Nat.max_zero, List.isEmpty_cons, Int.reduceToNat, Nat.reducePow, Int.reduceEq, Int.reduceNe, Int.reduceLT, Int.reduceLE, Nat.reduceAdd, Nat.reduceLeDiff, ↓reduceIte, Nat.reduceLT, Nat.reduceMul, Nat.reduceSub, reduceCtorEq, frzLoc, rowCells, vAppM, beq_iff_eq, bne_iff_ne, bne_self_eq_false, beq_self_eq_true, beq_true, beq_false, I, B, w, cx_len, cx_app, cx_own0, cx_own, cx_setOwn0, cx_setOwn, cx_take, cx_takeN, Nat.add_right_cancel_iff, Nat.lt_irrefl, cx_nlt, Nat.not_lt_zero, cx_get' h, cx_setId' h, cx_er h, cx_all0 h, cx_all h, CtxOk.lt h, CtxOk.ne0 h, vf21_res, vf21_keep, gt_iff_lt, hm, hwm, hdv, cT, hid, hb1, hbs]))))
      refine RL_head ?_
      (simp only [go_sem, Nat.max_zero, List.isEmpty_cons, Int.reduceToNat, Nat.reducePow, Int.reduceEq, Int.reduceNe, Int.reduceLT, Int.reduceLE, Nat.reduceAdd, Nat.reduceLeDiff, ↓reduceIte, Nat.reduceLT, Nat.reduceMul, Nat.reduceSub, reduceCtorEq, frzLoc, rowCells, vAppM, beq_iff_eq, bne_iff_ne, bne_self_eq_false, beq_self_eq_true, beq_true, beq_false, I, B, w, St.head, forget, vf21K0, RLK_some, cx_len, cx_app, cx_own0, cx_own, cx_setOwn0, cx_setOwn, cx_take, cx_takeN, Nat.add_right_cancel_iff, Nat.lt_irrefl, cx_nlt, Nat.not_lt_zero, cx_get' h, cx_setId' h, cx_er h, cx_all0 h, cx_all h, CtxOk.lt h, CtxOk.ne0 h, hid, hb1])
      refine ih (drT l d k).2 [[I (drT l d k).1.op, I (drT l d k).1.val, .sl ((drT l d k).1.args.map Tm.row)]] (.sl 3 [[I (drT l d k).1.op, I (drT l d k).1.val, .sl ((drT l d k).1.args.map Tm.row)]] (.own 0 gn)) [gn] (gn + 1) (.inr ⟨_, rfl, rfl⟩) (by simp; omega) fun v live gn hv => ?_
      refine hQ v live gn ?_
      simp only [drL, List.map_cons, hrow]
      exact hv
    · refine vf21L0_go ?_
      (repeat (first
    | refine RX_seq ?_
    | refine RX_block ?_
    | ((first | refine RX_reg ?_ | refine RX_cond' ?_ | refine RX_draw0 ?_ | refine RX_draw rfl ?_ | refine RX_skip ?_ | refine RX_gfrz ?_ | refine RX_exit ?_ | refine RX_ret ?_); try (simp only [go_sem, Nat.max_zero, List.isEmpty_cons, Int.reduceToNat, Nat.reducePow, Int.reduceEq, Int.reduceNe, Int.reduceLT, Int.reduceLE, Nat.reduceAdd, Nat.reduceLeDiff, ↓reduceIte, Nat.reduceLT, Nat.reduceMul, Nat.reduceSub, reduceCtorEq, frzLoc, rowCells, vAppM, beq_iff_eq, bne_iff_ne, bne_self_eq_false, beq_self_eq_true, beq_true, beq_false, I, B, w, cx_len, cx_app, cx_own0, cx_own, cx_setOwn0, cx_setOwn, cx_take, cx_takeN, Nat.add_right_cancel_iff, Nat.lt_irrefl, cx_nlt, Nat.not_lt_zero, cx_get' h, cx_setId' h, cx_er h, cx_all0 h, cx_all h, CtxOk.lt h, CtxOk.ne0 h, vf21_res, vf21_keep, gt_iff_lt, hm, hwm, hdv, cT, hid, hb1, hbs, hrl]))))
      refine RL_head ?_
      (simp only [go_sem, Nat.max_zero, List.isEmpty_cons, Int.reduceToNat, Nat.reducePow, Int.reduceEq, Int.reduceNe, Int.reduceLT, Int.reduceLE, Nat.reduceAdd, Nat.reduceLeDiff, ↓reduceIte, Nat.reduceLT, Nat.reduceMul, Nat.reduceSub, reduceCtorEq, frzLoc, rowCells, vAppM, beq_iff_eq, bne_iff_ne, bne_self_eq_false, beq_self_eq_true, beq_true, beq_false, I, B, w, St.head, forget, vf21K0, RLK_some, cx_len, cx_app, cx_own0, cx_own, cx_setOwn0, cx_setOwn, cx_take, cx_takeN, Nat.add_right_cancel_iff, Nat.lt_irrefl, cx_nlt, Nat.not_lt_zero, cx_get' h, cx_setId' h, cx_er h, cx_all0 h, cx_all h, CtxOk.lt h, CtxOk.ne0 h, hid, hb1])
      refine ih (drT l d k).2 (rows ++ [[I (drT l d k).1.op, I (drT l d k).1.val, .sl ((drT l d k).1.args.map Tm.row)]]) (.sl 3 (rows ++ [[I (drT l d k).1.op, I (drT l d k).1.val, .sl ((drT l d k).1.args.map Tm.row)]]) (.own 0 gn)) [gn] (gn + 1) (.inr ⟨_, rfl, rfl⟩) (by simp; omega) fun v live gn hv => ?_
      refine hQ v live gn ?_
      simp only [drL, List.map_cons, hrow]
      simpa using hv
end Go.Proofs.YtknbgkfojmedpaaGreat
namespace Go.Proofs.YtknbgkfojmedpaaGreat
open Go.VM
set_option maxHeartbeats 2000000 in
theorem e32b {l : List Int} (hB : Bytes l) : ∀ (d : Nat), d < 100 → ∀ (id k : Nat) bl, CtxOk bl id →
    CV VP 21 [.ptr id 0, .d (I ((d + 1 : Nat) : Int))] (cx bl id l (k : Nat) []) = some ⟨(drT l d k).1.ag, cx bl id l ((drT l d k).2 : Nat) [], [], 0⟩
  | 0, _, id, k, bl, h => e32_1b hB id k bl h
  | d + 1, hd, id, k, bl, h => by
    have ih := e32b hB d (by omega)
    have cN : ∀ (n : Int), 0 < n → n ≤ 256 → ∀ (k : Nat) (own : List (List V)), own.map V.erL = own → own.all (V.ltbL (bl.length + own.length)) = true → CV VP 16 [.ptr id 0, .d (I n)] (cx bl id l (k : Nat) own) = some ⟨.d (I (nxV l k n)), cx bl id l (nxA l k : Nat) own, [], 0⟩ := fun n h1 h2 k own => e29 hB h h1 h2
    have c12 := cN 12 (by decide) (by decide)
    have c9 := cN 9 (by decide) (by decide)
    have c6 := cN 6 (by decide) (by decide)
    have c4 := cN 4 (by decide) (by decide)
    have c3 := cN 3 (by decide) (by decide)
    have cM : ∀ (k : Nat) (own : List (List V)), own.map V.erL = own → own.all (V.ltbL (bl.length + own.length)) = true → CV VP 46 [.ptr id 0] (cx bl id l (k : Nat) own) = some ⟨.agg [.d (I 2), .d (I (nmV l k)), .d (.sl [])], cx bl id l (nmA l k : Nat) own, [], 0⟩ := fun k own => cx_lift (e68b hB id k) h
    have cT : ∀ (k : Nat) (own : List (List V)), own.map V.erL = own → own.all (V.ltbL (bl.length + own.length)) = true → CV VP 21 [.ptr id 0, .d (I ((d + 1 : Nat) : Int))] (cx bl id l (k : Nat) own) = some ⟨(drT l d k).1.ag, cx bl id l ((drT l d k).2 : Nat) own, [], 0⟩ := fun k own => cx_lift (ih id k) h
    have r := nxV_range hB (k := k) (n := 12) (by decide)
    have r9 := nxV_range hB (k := nxA l k) (n := 9) (by decide)
    have r4 := nxV_range hB (k := nxA l k) (n := 4) (by decide)
    have hv : nxV l k 12 = 0 ∨ nxV l k 12 = 1 ∨ nxV l k 12 = 2 ∨ nxV l k 12 = 3 ∨ (nxV l k 12 = 4 ∨ nxV l k 12 = 5) ∨ nxV l k 12 = 6 ∨ nxV l k 12 = 7 ∨ nxV l k 12 = 8 ∨ nxV l k 12 = 9 ∨ nxV l k 12 = 10 ∨ nxV l k 12 = 11 := by omega
    have hwd : IntKind.i64.wrap (((d + 1 + 1 : Nat) : Int) - 1) = ((d + 1 : Nat) : Int) := by rw [w_in (by omega) (by omega)]; omega
    have hd1 : ¬ (((d + 1 + 1 : Nat) : Int) ≤ 1) := by omega
    have w9 : IntKind.i64.wrap (1 + nxV l (nxA l k) 9) = 1 + nxV l (nxA l k) 9 := w_in (by omega) (by omega)
    have hid : id < bl.length + 1 := Nat.lt_succ_of_lt h.lt
    have hb1 : bl.length < bl.length + 1 := Nat.lt_succ_self _
    have hr1 : ∀ a b c, Rows3 [[a, b, c]] := fun a b c => ⟨by simp, rfl⟩
    clear r cN ih
    refine CV_run (vf := vf21) rfl rfl ?_
    rw [vf21_start]
    rcases hv with hv | hv | hv | hv | hv | hv | hv | hv | hv | hv | hv
    case inr.inr.inr.inr.inl =>
      obtain ⟨m, hm⟩ : ∃ m : Nat, nxV l (nxA l k) 4 = (m : Int) := ⟨_, (Int.toNat_of_nonneg r4.1).symm⟩
      have hm4 : m < 4 := by omega
      have hT : drT l (d + 1) k = (.mk 3 0 (drL (drT l d) m (nxA l (nxA l k))).1, (drL (drT l d) m (nxA l (nxA l k))).2) := by
        rw [drT, hm, Int.toNat_natCast, if_neg (by rcases hv with hv | hv <;> rw [hv] <;> decide), if_pos (by rcases hv with hv | hv <;> rw [hv] <;> decide)]
      rw [hT]
      have hrows := Tm.rows3 (drL (drT l d) m (nxA l (nxA l k))).1 (by rw [drL_len]; omega)
      rcases hv with hv | hv <;>
      · simp only [Tm.ag, Tm.op, Tm.val, Tm.args]
        (repeat (first
    | refine RX_seq ?_
    | refine RX_block ?_
    | ((first | refine RX_reg ?_ | refine RX_cond' ?_ | refine RX_draw0 ?_ | refine RX_draw rfl ?_ | refine RX_skip ?_ | refine RX_gfrz ?_ | refine RX_exit ?_ | refine RX_ret ?_); try (simp only [go_sem, Nat.max_zero, List.isEmpty_cons, Int.reduceToNat, Nat.reducePow, Int.reduceEq, Int.reduceNe, Int.reduceLT, Int.reduceLE, Nat.reduceAdd, Nat.reduceLeDiff, ↓reduceIte, Nat.reduceLT, Nat.reduceMul, Nat.reduceSub, reduceCtorEq, frzLoc, rowCells, vAppM, beq_iff_eq, bne_iff_ne, bne_self_eq_false, beq_self_eq_true, beq_true, beq_false, I, B, w, vf21_res, vf21_keep, cx_len, cx_app, cx_own0, cx_own, cx_setOwn0, cx_setOwn, cx_take, cx_takeN, Nat.add_right_cancel_iff, Nat.lt_irrefl, cx_nlt, Nat.not_lt_zero, cx_get' h, cx_setId' h, cx_er h, cx_all0 h, cx_all h, CtxOk.lt h, CtxOk.ne0 h, c12, hv, gt_iff_lt, hd1, c4, hm]))))
        refine RX_loop ?_
        refine RL_head ?_
        (simp only [go_sem, Nat.max_zero, List.isEmpty_cons, Int.reduceToNat, Nat.reducePow, Int.reduceEq, Int.reduceNe, Int.reduceLT, Int.reduceLE, Nat.reduceAdd, Nat.reduceLeDiff, ↓reduceIte, Nat.reduceLT, Nat.reduceMul, Nat.reduceSub, reduceCtorEq, frzLoc, rowCells, vAppM, beq_iff_eq, bne_iff_ne, bne_self_eq_false, beq_self_eq_true, beq_true, beq_false, I, B, w, St.head, forget, vf21K0, RLK_some, cx_len, cx_app, cx_own0, cx_own, cx_setOwn0, cx_setOwn, cx_take, cx_takeN, Nat.add_right_cancel_iff, Nat.lt_irrefl, cx_nlt, Nat.not_lt_zero, cx_get' h, cx_setId' h, cx_er h, cx_all0 h, cx_all h, CtxOk.lt h, CtxOk.ne0 h, hid, hb1])
        refine L32 h (CtxOk.ne0 h) rfl rfl hwd cT m _ [] .nil [] _ (.inl ⟨rfl, rfl, rfl⟩) (by simp; omega) fun v live gn hacc => ?_
        rcases hacc with ⟨rfl, rfl, hn⟩ | ⟨g, rfl, rfl⟩
        · rw [List.nil_append] at hn
          rw [hn] at hrows ⊢
          (repeat (first
    | refine RX_seq ?_
    | refine RX_block ?_
    | ((first | refine RX_reg ?_ | refine RX_cond' ?_ | refine RX_draw0 ?_ | refine RX_draw rfl ?_ | refine RX_skip ?_ | refine RX_gfrz ?_ | refine RX_exit ?_ | refine RX_ret ?_); try (simp only [go_sem, Nat.max_zero, List.isEmpty_cons, Int.reduceToNat, Nat.reducePow, Int.reduceEq, Int.reduceNe, Int.reduceLT, Int.reduceLE, Nat.reduceAdd, Nat.reduceLeDiff, ↓reduceIte, Nat.reduceLT, Nat.reduceMul, Nat.reduceSub, reduceCtorEq, frzLoc, rowCells, vAppM, beq_iff_eq, bne_iff_ne, bne_self_eq_false, beq_self_eq_true, beq_true, beq_false, I, B, w, vf21_res, vf21_keep, cx_len, cx_app, cx_own0, cx_own, cx_setOwn0, cx_setOwn, cx_take, cx_takeN, Nat.add_right_cancel_iff, Nat.lt_irrefl, cx_nlt, Nat.not_lt_zero, cx_get' h, cx_setId' h, cx_er h, cx_all0 h, cx_all h, CtxOk.lt h, CtxOk.ne0 h, e33 hrows]))))
        · (repeat (first
    | refine RX_seq ?_
    | refine RX_block ?_
    | ((first | refine RX_reg ?_ | refine RX_cond' ?_ | refine RX_draw0 ?_ | refine RX_draw rfl ?_ | refine RX_skip ?_ | refine RX_gfrz ?_ | refine RX_exit ?_ | refine RX_ret ?_); try (simp only [go_sem, Nat.max_zero, List.isEmpty_cons, Int.reduceToNat, Nat.reducePow, Int.reduceEq, Int.reduceNe, Int.reduceLT, Int.reduceLE, Nat.reduceAdd, Nat.reduceLeDiff, ↓reduceIte, Nat.reduceLT, Nat.reduceMul, Nat.reduceSub, reduceCtorEq, frzLoc, rowCells, vAppM, beq_iff_eq, bne_iff_ne, bne_self_eq_false, beq_self_eq_true, beq_true, beq_false, I, B, w, vf21_res, vf21_keep, cx_len, cx_app, cx_own0, cx_own, cx_setOwn0, cx_setOwn, cx_take, cx_takeN, Nat.add_right_cancel_iff, Nat.lt_irrefl, cx_nlt, Nat.not_lt_zero, cx_get' h, cx_setId' h, cx_er h, cx_all0 h, cx_all h, CtxOk.lt h, CtxOk.ne0 h, e33 hrows]))))
    all_goals
      simp only [drT, leafO, leafV, leafA, nmT, nmA, hv, Int.reduceMod, Int.reduceEq, Int.reduceLE, if_true, if_false, Tm.ag, Tm.op_mk, Tm.val_mk, Tm.args_mk, List.map_cons, List.map_nil, Tm.row_mk, Tm.row_eq (drT l d _).1]
      (repeat (first
    | refine RX_seq ?_
    | refine RX_block ?_
    | ((first | refine RX_reg ?_ | refine RX_cond' ?_ | refine RX_draw0 ?_ | refine RX_draw rfl ?_ | refine RX_skip ?_ | refine RX_gfrz ?_ | refine RX_exit ?_ | refine RX_ret ?_); try (simp only [go_sem, Nat.max_zero, List.isEmpty_cons, Int.reduceToNat, Nat.reducePow, Int.reduceEq, Int.reduceNe, Int.reduceLT, Int.reduceLE, Nat.reduceAdd, Nat.reduceLeDiff, ↓reduceIte, Nat.reduceLT, Nat.reduceMul, Nat.reduceSub, reduceCtorEq, frzLoc, rowCells, vAppM, beq_iff_eq, bne_iff_ne, bne_self_eq_false, beq_self_eq_true, beq_true, beq_false, I, B, w, vf21_res, vf21_keep, cx_len, cx_app, cx_own0, cx_own, cx_setOwn0, cx_setOwn, cx_take, cx_takeN, Nat.add_right_cancel_iff, Nat.lt_irrefl, cx_nlt, Nat.not_lt_zero, cx_get' h, cx_setId' h, cx_er h, cx_all0 h, cx_all h, CtxOk.lt h, CtxOk.ne0 h, c12, c9, c6, c4, c3, cM, cT, hv, e76, e77, e78n, e79 _ (hr1 _ _ _), e80, e57, gt_iff_lt, Int.reduceTMod, hd1, hwd, w9, hid, hb1, nmA]))))
end Go.Proofs.YtknbgkfojmedpaaGreat
namespace Go.Proofs.YtknbgkfojmedpaaGreat
open Go.VM
theorem e103 {rows : List (List D)} (h : Rows3 rows) : CV VP 211 [.d (.sl rows)] [] = some ⟨.d (.sl rows), [], [], 0⟩ := by
  cases rows with
  | nil => exact vf211_cnil
  | cons r rs =>
    refine CV_run (vf := vf211) rfl rfl ?_
    rw [vf211_start]
    have h1 := h.1
    have h2 := h.2
    simp only [List.length_cons, List.all_cons] at h1 h2
    (repeat (first
    | refine RX_seq ?_
    | refine RX_block ?_
    | ((first | refine RX_reg ?_ | refine RX_cond' ?_ | refine RX_draw0 ?_ | refine RX_draw rfl ?_ | refine RX_skip ?_ | refine RX_gfrz ?_ | refine RX_exit ?_ | refine RX_ret ?_); try (simp only [go_sem, Nat.max_zero, List.isEmpty_cons, Int.reduceToNat, Nat.reducePow, Int.reduceEq, Int.reduceNe, Int.reduceLT, Int.reduceLE, Nat.reduceAdd, Nat.reduceLeDiff, ↓reduceIte, Nat.reduceLT, Nat.reduceMul, Nat.reduceSub, reduceCtorEq, frzLoc, rowCells, vAppM, beq_iff_eq, bne_iff_ne, bne_self_eq_false, beq_self_eq_true, beq_true, beq_false, I, B, w, vf211_res, vf211_keep, h1, h2]))))
theorem e71 {rows : List (List D)} (h : Rows3 rows) : CV VP 143 [.d (.sl rows)] [] = some ⟨.agg [.d (I 3), .d (I 0), .d (.sl rows)], [], [], 0⟩ := by
  refine CV_run (vf := vf143) rfl rfl ?_
  rw [vf143_start]
  (repeat (first
    | refine RX_seq ?_
    | refine RX_block ?_
    | ((first | refine RX_reg ?_ | refine RX_cond' ?_ | refine RX_draw0 ?_ | refine RX_draw rfl ?_ | refine RX_skip ?_ | refine RX_gfrz ?_ | refine RX_exit ?_ | refine RX_ret ?_); try (simp only [go_sem, Nat.max_zero, List.isEmpty_cons, Int.reduceToNat, Nat.reducePow, Int.reduceEq, Int.reduceNe, Int.reduceLT, Int.reduceLE, Nat.reduceAdd, Nat.reduceLeDiff, ↓reduceIte, Nat.reduceLT, Nat.reduceMul, Nat.reduceSub, reduceCtorEq, frzLoc, rowCells, vAppM, beq_iff_eq, bne_iff_ne, bne_self_eq_false, beq_self_eq_true, beq_true, beq_false, I, B, w, vf143_res, vf143_keep, e103 h]))))
end Go.Proofs.YtknbgkfojmedpaaGreat
namespace Go.Proofs.YtknbgkfojmedpaaGreat
open Go.VM
def drS (l : List Int) (most : Int) (d k : Nat) : List Tm × Nat := drL (drT l d) (nxV l k (most + 1)).toNat (nxA l k)
theorem e22b {l : List Int} (hB : Bytes l) (most : Int) (h1 : 0 ≤ most) (h2 : most < 256) (d : Nat) (hd : d < 100) (id k : Nat) : ∀ bl, CtxOk bl id →
    CV VP 104 [.ptr id 0, .d (I most), .d (I ((d + 1 : Nat) : Int))] (cx bl id l (k : Nat) []) = some ⟨.d (.sl ((drS l most d k).1.map Tm.row)), cx bl id l ((drS l most d k).2 : Nat) [], [], 0⟩ := by
  intro bl h
  have cN : ∀ (k : Nat) (own : List (List V)), own.map V.erL = own → own.all (V.ltbL (bl.length + own.length)) = true → CV VP 16 [.ptr id 0, .d (I (most + 1))] (cx bl id l (k : Nat) own) = some ⟨.d (I (nxV l k (most + 1))), cx bl id l (nxA l k : Nat) own, [], 0⟩ := fun k own => e29 hB h (by omega) (by omega)
  have cT : ∀ (k : Nat) (own : List (List V)), own.map V.erL = own → own.all (V.ltbL (bl.length + own.length)) = true → CV VP 21 [.ptr id 0, .d (I ((d + 1 : Nat) : Int))] (cx bl id l (k : Nat) own) = some ⟨(drT l d k).1.ag, cx bl id l ((drT l d k).2 : Nat) own, [], 0⟩ := fun k own => cx_lift (e32b hB d hd id k) h
  have cN0 := cN k [] rfl rfl
  have cT0 := fun k => cT k [] rfl rfl
  clear cN cT
  have r := nxV_range hB (k := k) (n := most + 1) (by omega)
  have wm : IntKind.i64.wrap (most + 1) = most + 1 := w_in (by omega) (by omega)
  obtain ⟨M, hM⟩ : ∃ M : Nat, nxV l k (most + 1) = (M : Int) := ⟨_, (Int.toNat_of_nonneg r.1).symm⟩
  have hM2 : M < 256 := by omega
  have hdr : drS l most d k = drL (drT l d) M (nxA l k) := by rw [drS, hM, Int.toNat_natCast]
  rw [hdr]
  generalize hT : drL (drT l d) M (nxA l k) = T
  refine CV_run (vf := vf104) rfl rfl ?_
  rw [vf104_start]
  (repeat (first
    | refine RX_seq ?_
    | refine RX_block ?_
    | ((first | refine RX_reg ?_ | refine RX_cond' ?_ | refine RX_draw0 ?_ | refine RX_draw rfl ?_ | refine RX_skip ?_ | refine RX_gfrz ?_ | refine RX_exit ?_ | refine RX_ret ?_); try (simp only [go_sem, Nat.max_zero, List.isEmpty_cons, Int.reduceToNat, Nat.reducePow, Int.reduceEq, Int.reduceNe, Int.reduceLT, Int.reduceLE, Nat.reduceAdd, Nat.reduceLeDiff, ↓reduceIte, Nat.reduceLT, Nat.reduceMul, Nat.reduceSub, reduceCtorEq, frzLoc, rowCells, vAppM, beq_iff_eq, bne_iff_ne, bne_self_eq_false, beq_self_eq_true, beq_true, beq_false, I, B, w, vf104_res, vf104_keep, cx_len, cx_app, cx_own0, cx_own, cx_setOwn0, cx_setOwn, cx_take, cx_takeN, Nat.add_right_cancel_iff, Nat.lt_irrefl, cx_nlt, Nat.not_lt_zero, cx_get' h, cx_setId' h, cx_er h, cx_all0 h, cx_all h, CtxOk.lt h, CtxOk.ne0 h, wm, cN0, hM]))))
  refine RX_loopN (n := bl.length) (by simp [cx_len]) ?_
  refine RL_ind (fun m st => ∃ (k : Nat) (rows : List (List D)) (v : V) (live : List Nat) (gn : Nat), Acc 3 v live rows ∧ rows.length + m < 1000 ∧ rows ++ (drL (drT l d) m k).1.map Tm.row = T.1.map Tm.row ∧ (drL (drT l d) m k).2 = T.2 ∧
    At vf104K0 bl.length st ((.ptr id 0 :: .any :: .d (I ((d + 1 : Nat) : Int)) :: .any :: .any :: .any :: .any :: v :: .d (I (m : Nat)) :: .any :: .any :: .any :: .any :: .any :: .any :: .any :: .any :: .any :: .any :: .any :: .any :: .any :: .any :: .any :: [])) (cx bl id l (k : Nat) []) live gn bl.length) ?_ M _ ⟨nxA l k, [], .nil, [], 0, .inl ⟨rfl, rfl, rfl⟩, by simp; omega, by rw [hT]; rfl, by rw [hT], rfl, by simp only [cx_take], rfl, rfl, by simp [cx_len], rfl⟩
  rintro m st ⟨k, rows, v, live, gn, hv, hl, hrows, hend, hat⟩ ih
  cases m with
  | zero =>
    simp only [drL, List.map_nil, List.append_nil] at hrows hend
    rw [← hrows, ← hend]
    rcases hv with ⟨rfl, rfl, rfl⟩ | ⟨g, rfl, rfl⟩ <;>
    · refine RL_at hat (by (simp only [go_sem, Nat.max_zero, List.isEmpty_cons, Int.reduceToNat, Nat.reducePow, Int.reduceEq, Int.reduceNe, Int.reduceLT, Int.reduceLE, Nat.reduceAdd, Nat.reduceLeDiff, ↓reduceIte, Nat.reduceLT, Nat.reduceMul, Nat.reduceSub, reduceCtorEq, frzLoc, rowCells, vAppM, beq_iff_eq, bne_iff_ne, bne_self_eq_false, beq_self_eq_true, beq_true, beq_false, I, B, w, cx_len, cx_app, cx_own0, cx_own, cx_setOwn0, cx_setOwn, cx_take, cx_takeN, Nat.add_right_cancel_iff, Nat.lt_irrefl, cx_nlt, Nat.not_lt_zero, cx_get' h, cx_setId' h, cx_er h, cx_all0 h, cx_all h, CtxOk.lt h, CtxOk.ne0 h])) (by (simp only [go_sem, Nat.max_zero, List.isEmpty_cons, Int.reduceToNat, Nat.reducePow, Int.reduceEq, Int.reduceNe, Int.reduceLT, Int.reduceLE, Nat.reduceAdd, Nat.reduceLeDiff, ↓reduceIte, Nat.reduceLT, Nat.reduceMul, Nat.reduceSub, reduceCtorEq, frzLoc, rowCells, vAppM, beq_iff_eq, bne_iff_ne, bne_self_eq_false, beq_self_eq_true, beq_true, beq_false, I, B, w, cx_len, cx_app, cx_own0, cx_own, cx_setOwn0, cx_setOwn, cx_take, cx_takeN, Nat.add_right_cancel_iff, Nat.lt_irrefl, cx_nlt, Nat.not_lt_zero, cx_get' h, cx_setId' h, cx_er h, cx_all0 h, cx_all h, CtxOk.lt h, CtxOk.ne0 h])) (vf104L0_go ?_)
      (repeat (first
    | refine RX_seq ?_
    | refine RX_block ?_
    | ((first | refine RX_reg ?_ | refine RX_cond' ?_ | refine RX_draw0 ?_ | refine RX_draw rfl ?_ | refine RX_skip ?_ | refine RX_gfrz ?_ | refine RX_exit ?_ | refine RX_ret ?_); try (simp only [go_sem, Nat.max_zero, List.isEmpty_cons, Int.reduceToNat, Nat.reducePow, Int.reduceEq, Int.reduceNe, Int.reduceLT, Int.reduceLE, Nat.reduceAdd, Nat.reduceLeDiff, ↓reduceIte, Nat.reduceLT, Nat.reduceMul, Nat.reduceSub, reduceCtorEq, frzLoc, rowCells, vAppM, beq_iff_eq, bne_iff_ne, bne_self_eq_false, beq_self_eq_true, beq_true, beq_false, I, B, w, vf104_res, vf104_keep, cx_len, cx_app, cx_own0, cx_own, cx_setOwn0, cx_setOwn, cx_take, cx_takeN, Nat.add_right_cancel_iff, Nat.lt_irrefl, cx_nlt, Nat.not_lt_zero, cx_get' h, cx_setId' h, cx_er h, cx_all0 h, cx_all h, CtxOk.lt h, CtxOk.ne0 h, gt_iff_lt]))))
  | succ m =>
    have hm : (0 : Int) < ((m + 1 : Nat) : Int) := by omega
    have hwm : IntKind.i64.wrap (((m + 1 : Nat) : Int) - 1) = (m : Int) := by rw [w_in (by omega) (by omega)]; omega
    have hrl : rows.length + 1 ≤ 4294967296 := by omega
    simp only [drL, List.map_cons, Tm.row_eq (drT l d k).1] at hrows hend
    rcases hv with ⟨rfl, rfl, rfl⟩ | ⟨g, rfl, rfl⟩ <;>
    · refine RL_at hat (by (simp only [go_sem, Nat.max_zero, List.isEmpty_cons, Int.reduceToNat, Nat.reducePow, Int.reduceEq, Int.reduceNe, Int.reduceLT, Int.reduceLE, Nat.reduceAdd, Nat.reduceLeDiff, ↓reduceIte, Nat.reduceLT, Nat.reduceMul, Nat.reduceSub, reduceCtorEq, frzLoc, rowCells, vAppM, beq_iff_eq, bne_iff_ne, bne_self_eq_false, beq_self_eq_true, beq_true, beq_false, I, B, w, cx_len, cx_app, cx_own0, cx_own, cx_setOwn0, cx_setOwn, cx_take, cx_takeN, Nat.add_right_cancel_iff, Nat.lt_irrefl, cx_nlt, Nat.not_lt_zero, cx_get' h, cx_setId' h, cx_er h, cx_all0 h, cx_all h, CtxOk.lt h, CtxOk.ne0 h])) (by (simp only [go_sem, Nat.max_zero, List.isEmpty_cons, Int.reduceToNat, Nat.reducePow, Int.reduceEq, Int.reduceNe, Int.reduceLT, Int.reduceLE, Nat.reduceAdd, Nat.reduceLeDiff, ↓reduceIte, Nat.reduceLT, Nat.reduceMul, Nat.reduceSub, reduceCtorEq, frzLoc, rowCells, vAppM, beq_iff_eq, bne_iff_ne, bne_self_eq_false, beq_self_eq_true, beq_true, beq_false, I, B, w, cx_len, cx_app, cx_own0, cx_own, cx_setOwn0, cx_setOwn, cx_take, cx_takeN, Nat.add_right_cancel_iff, Nat.lt_irrefl, cx_nlt, Nat.not_lt_zero, cx_get' h, cx_setId' h, cx_er h, cx_all0 h, cx_all h, CtxOk.lt h, CtxOk.ne0 h])) (vf104L0_go ?_)
      (repeat (first
    | refine RX_seq ?_
    | refine RX_block ?_
    | ((first | refine RX_reg ?_ | refine RX_cond' ?_ | refine RX_draw0 ?_ | refine RX_draw rfl ?_ | refine RX_skip ?_ | refine RX_gfrz ?_ | refine RX_exit ?_ | refine RX_ret ?_); try (simp only [go_sem, Nat.max_zero, List.isEmpty_cons, Int.reduceToNat, Nat.reducePow, Int.reduceEq, Int.reduceNe, Int.reduceLT, Int.reduceLE, Nat.reduceAdd, Nat.reduceLeDiff, ↓reduceIte, Nat.reduceLT, Nat.reduceMul, Nat.reduceSub, reduceCtorEq, frzLoc, rowCells, vAppM, beq_iff_eq, bne_iff_ne, bne_self_eq_false, beq_self_eq_true, beq_true, beq_false, I, B, w, vf104_res, vf104_keep, cx_len, cx_app, cx_own0, cx_own, cx_setOwn0, cx_setOwn, cx_take, cx_takeN, Nat.add_right_cancel_iff, Nat.lt_irrefl, cx_nlt, Nat.not_lt_zero, cx_get' h, cx_setId' h, cx_er h, cx_all0 h, cx_all h, CtxOk.lt h, CtxOk.ne0 h, gt_iff_lt, hm, hwm, cT0, hrl]))))
      refine ih m _ (Nat.lt_succ_self m) ⟨(drT l d k).2, _, _, _, _, .inr ⟨_, rfl, rfl⟩, ?_, ?_, hend, rfl, by simp only [cx_take], rfl, rfl, rfl, rfl⟩
      · simp only [List.length_append, List.length_cons, List.length_nil] at hl ⊢; omega
      · first | exact hrows | simpa using hrows
end Go.Proofs.YtknbgkfojmedpaaGreat
namespace Go.Proofs.YtknbgkfojmedpaaGreat
open Go.VM
def Tm.isHd (n : Int) : List Tm → Bool
  | [] => false
  | u :: _ => u.op == 1 && u.val == n
def Tm.isPart (n : Int) (t : Tm) : Bool := t.op == 3 && Tm.isHd n t.args
def Tm.find (n : Int) : List Tm → Option (List Tm)
  | [] => none
  | t :: ts => if t.isPart n then some t.args.tail else Tm.find n ts
theorem Tm.find_drop {n : Int} {ts : List Tm} {i : Nat} {t : Tm} (h : ts[i]? = some t) : Tm.find n (ts.drop i) = if t.isPart n then some t.args.tail else Tm.find n (ts.drop (i + 1)) := by
  obtain ⟨h1, h2⟩ := List.getElem?_eq_some_iff.1 h
  rw [List.drop_eq_getElem_cons h1, h2, Tm.find]
theorem pos_succ (n : Nat) : (0 : Int) < ((n + 1 : Nat) : Int) := by omega
theorem one_le_succ (n : Nat) : (1 : Int) ≤ ((n + 1 : Nat) : Int) := by omega
def Tm.findV (n : Int) (ts : List Tm) : V := .tup [.d (.sl (((Tm.find n ts).getD []).map Tm.row)), .d (B (Tm.find n ts).isSome)]
theorem e23 (n : Int) (ts : List Tm) (hl : ts.length < 1000000) (hs : ∀ t ∈ ts, t.args.length < 1000000) :
    CV VP 152 [.d (.sl (ts.map Tm.row)), .d (I n)] [] = some ⟨Tm.findV n ts, [], [], 0⟩ := by
  refine CV_run (vf := vf152) rfl rfl ?_
  rw [vf152_start]
  (repeat (first
    | refine RX_seq ?_
    | refine RX_block ?_
    | ((first | refine RX_reg ?_ | refine RX_cond' ?_ | refine RX_draw0 ?_ | refine RX_draw rfl ?_ | refine RX_skip ?_ | refine RX_gfrz ?_ | refine RX_exit ?_ | refine RX_ret ?_); try (simp only [go_sem, Nat.max_zero, List.isEmpty_cons, Int.reduceToNat, Nat.reducePow, Int.reduceEq, Int.reduceNe, Int.reduceLT, Int.reduceLE, Nat.reduceAdd, Nat.reduceLeDiff, ↓reduceIte, Nat.reduceLT, Nat.reduceMul, Nat.reduceSub, reduceCtorEq, frzLoc, rowCells, vAppM, beq_iff_eq, bne_iff_ne, bne_self_eq_false, beq_self_eq_true, beq_true, beq_false, I, B, w, vf152_res, vf152_keep, List.length_map]))))
  refine RX_loop ?_
  refine RL_ind (fun m st => ∃ (i : Nat), i + m = ts.length ∧ Tm.find n (ts.drop i) = Tm.find n ts ∧
    At vf152K0 0 st ((.any :: .d (I n) :: .any :: .any :: .any :: .any :: .any :: .any :: .d (.sl (ts.map Tm.row)) :: .d (I (ts.length : Nat)) :: .d (I (i : Nat)) :: .any :: .any :: .any :: .any :: .any :: .any :: .any :: .any :: .any :: .any :: .any :: .any :: .any :: .any :: .any :: .any :: .any :: .any :: .any :: .any :: .any :: .any :: .any :: .any :: .any :: .any :: .any :: .any :: .any :: .any :: .any :: .any :: .any :: .any :: .any :: [])) [] [] 0 0) ?_ ts.length _ ⟨0, Nat.zero_add _, rfl, rfl, rfl, rfl, rfl, rfl, rfl⟩
  rintro m st ⟨i, hi, hf, hat⟩ ih
  refine RL_at hat rfl rfl (vf152L0_go ?_)
  cases m with
  | zero =>
    have h1 : ¬ i < ts.length := by omega
    rw [List.drop_eq_nil_of_le (by omega)] at hf
    simp only [Tm.findV, ← hf]
    (repeat (first
    | refine RX_seq ?_
    | refine RX_block ?_
    | ((first | refine RX_reg ?_ | refine RX_cond' ?_ | refine RX_draw0 ?_ | refine RX_draw rfl ?_ | refine RX_skip ?_ | refine RX_gfrz ?_ | refine RX_exit ?_ | refine RX_ret ?_); try (simp only [go_sem, Nat.max_zero, List.isEmpty_cons, Int.reduceToNat, Nat.reducePow, Int.reduceEq, Int.reduceNe, Int.reduceLT, Int.reduceLE, Nat.reduceAdd, Nat.reduceLeDiff, ↓reduceIte, Nat.reduceLT, Nat.reduceMul, Nat.reduceSub, reduceCtorEq, frzLoc, rowCells, vAppM, beq_iff_eq, bne_iff_ne, bne_self_eq_false, beq_self_eq_true, beq_true, beq_false, I, B, w, vf152_res, vf152_keep, h1, Tm.find, Option.getD_none, Option.isSome_none]))))
  | succ m =>
    have h1 : i < ts.length := by omega
    obtain ⟨t, ht⟩ : ∃ t, ts[i]? = some t := ⟨_, List.getElem?_eq_getElem h1⟩
    rw [Tm.find_drop ht] at hf
    have hr : (ts.map Tm.row)[i]? = some [I t.op, I t.val, .sl (t.args.map Tm.row)] := by rw [List.getElem?_map, ht, Option.map_some, Tm.row_eq]
    have hm := List.mem_of_getElem? ht
    have hts := hs t hm
    have hwi := w_nat (i := i) (by omega)
    have next := fun (hp : t.isPart n = false) st hat => ih m st (Nat.lt_succ_self m) ⟨i + 1, by omega, by rw [← hf, hp]; rfl, hat⟩
    clear ih
    generalize hcell : t.args = args at *
    have hip : t.isPart n = (t.op == 3 && Tm.isHd n args) := by rw [Tm.isPart, hcell]
    by_cases c1 : t.op = 3
    · cases args with
      | nil =>
        have hp : t.isPart n = false := by rw [hip, c1]; rfl
        (repeat (first
    | refine RX_seq ?_
    | refine RX_block ?_
    | ((first | refine RX_reg ?_ | refine RX_cond' ?_ | refine RX_draw0 ?_ | refine RX_draw rfl ?_ | refine RX_skip ?_ | refine RX_gfrz ?_ | refine RX_exit ?_ | refine RX_ret ?_); try (simp only [go_sem, Nat.max_zero, List.isEmpty_cons, Int.reduceToNat, Nat.reducePow, Int.reduceEq, Int.reduceNe, Int.reduceLT, Int.reduceLE, Nat.reduceAdd, Nat.reduceLeDiff, ↓reduceIte, Nat.reduceLT, Nat.reduceMul, Nat.reduceSub, reduceCtorEq, frzLoc, rowCells, vAppM, beq_iff_eq, bne_iff_ne, bne_self_eq_false, beq_self_eq_true, beq_true, beq_false, I, B, w, vf152_res, vf152_keep, h1, hr, c1, List.length_map, hwi, gt_iff_lt]))))
        exact next hp _ ⟨rfl, rfl, rfl, rfl, rfl, rfl⟩
      | cons u us =>
        by_cases c2 : u.op = 1
        · by_cases c3 : u.val = n
          · have hp : t.isPart n = true := by rw [hip, c1, Tm.isHd, c2, c3]; simp
            rw [hp] at hf
            simp only [if_true, List.tail_cons] at hf
            have hres : Tm.findV n ts = .tup [.d (.sl (us.map Tm.row)), .d (B true)] := by rw [Tm.findV, ← hf]; rfl
            rw [hres]
            have h3 := Tm.rows3 us (by simp only [List.length_cons] at hts; omega)
            have h4 := h3.2
            have h5 : List.take us.length (us.map Tm.row) = us.map Tm.row := List.take_of_length_le (by simp)
            (repeat (first
    | refine RX_seq ?_
    | refine RX_block ?_
    | ((first | refine RX_reg ?_ | refine RX_cond' ?_ | refine RX_draw0 ?_ | refine RX_draw rfl ?_ | refine RX_skip ?_ | refine RX_gfrz ?_ | refine RX_exit ?_ | refine RX_ret ?_); try (simp only [go_sem, Nat.max_zero, List.isEmpty_cons, Int.reduceToNat, Nat.reducePow, Int.reduceEq, Int.reduceNe, Int.reduceLT, Int.reduceLE, Nat.reduceAdd, Nat.reduceLeDiff, ↓reduceIte, Nat.reduceLT, Nat.reduceMul, Nat.reduceSub, reduceCtorEq, frzLoc, rowCells, vAppM, beq_iff_eq, bne_iff_ne, bne_self_eq_false, beq_self_eq_true, beq_true, beq_false, I, B, w, vf152_res, vf152_keep, h1, hr, c1, c2, c3, List.length_map, hwi, gt_iff_lt, Tm.row_eq u, e71 h3, vSlice, vBounds, h4, h5, pos_succ, one_le_succ]))))
          · have hp : t.isPart n = false := by rw [hip, Tm.isHd]; simp [c3]
            (repeat (first
    | refine RX_seq ?_
    | refine RX_block ?_
    | ((first | refine RX_reg ?_ | refine RX_cond' ?_ | refine RX_draw0 ?_ | refine RX_draw rfl ?_ | refine RX_skip ?_ | refine RX_gfrz ?_ | refine RX_exit ?_ | refine RX_ret ?_); try (simp only [go_sem, Nat.max_zero, List.isEmpty_cons, Int.reduceToNat, Nat.reducePow, Int.reduceEq, Int.reduceNe, Int.reduceLT, Int.reduceLE, Nat.reduceAdd, Nat.reduceLeDiff, ↓reduceIte, Nat.reduceLT, Nat.reduceMul, Nat.reduceSub, reduceCtorEq, frzLoc, rowCells, vAppM, beq_iff_eq, bne_iff_ne, bne_self_eq_false, beq_self_eq_true, beq_true, beq_false, I, B, w, vf152_res, vf152_keep, h1, hr, c1, c2, c3, List.length_map, hwi, gt_iff_lt, Tm.row_eq u, pos_succ]))))
            exact next hp _ ⟨rfl, rfl, rfl, rfl, rfl, rfl⟩
        · have hp : t.isPart n = false := by rw [hip, Tm.isHd]; simp [c2]
          (repeat (first
    | refine RX_seq ?_
    | refine RX_block ?_
    | ((first | refine RX_reg ?_ | refine RX_cond' ?_ | refine RX_draw0 ?_ | refine RX_draw rfl ?_ | refine RX_skip ?_ | refine RX_gfrz ?_ | refine RX_exit ?_ | refine RX_ret ?_); try (simp only [go_sem, Nat.max_zero, List.isEmpty_cons, Int.reduceToNat, Nat.reducePow, Int.reduceEq, Int.reduceNe, Int.reduceLT, Int.reduceLE, Nat.reduceAdd, Nat.reduceLeDiff, ↓reduceIte, Nat.reduceLT, Nat.reduceMul, Nat.reduceSub, reduceCtorEq, frzLoc, rowCells, vAppM, beq_iff_eq, bne_iff_ne, bne_self_eq_false, beq_self_eq_true, beq_true, beq_false, I, B, w, vf152_res, vf152_keep, h1, hr, c1, c2, List.length_map, hwi, gt_iff_lt, Tm.row_eq u, pos_succ]))))
          exact next hp _ ⟨rfl, rfl, rfl, rfl, rfl, rfl⟩
    · have hp : t.isPart n = false := by rw [hip]; simp [c1]
      (repeat (first
    | refine RX_seq ?_
    | refine RX_block ?_
    | ((first | refine RX_reg ?_ | refine RX_cond' ?_ | refine RX_draw0 ?_ | refine RX_draw rfl ?_ | refine RX_skip ?_ | refine RX_gfrz ?_ | refine RX_exit ?_ | refine RX_ret ?_); try (simp only [go_sem, Nat.max_zero, List.isEmpty_cons, Int.reduceToNat, Nat.reducePow, Int.reduceEq, Int.reduceNe, Int.reduceLT, Int.reduceLE, Nat.reduceAdd, Nat.reduceLeDiff, ↓reduceIte, Nat.reduceLT, Nat.reduceMul, Nat.reduceSub, reduceCtorEq, frzLoc, rowCells, vAppM, beq_iff_eq, bne_iff_ne, bne_self_eq_false, beq_self_eq_true, beq_true, beq_false, I, B, w, vf152_res, vf152_keep, h1, hr, c1, List.length_map, hwi]))))
      exact next hp _ ⟨rfl, rfl, rfl, rfl, rfl, rfl⟩
end Go.Proofs.YtknbgkfojmedpaaGreat
namespace Go.Proofs.YtknbgkfojmedpaaGreat
open Go.VM
def Tm.one : List Tm → Int × Bool
  | [u] => if u.op = 1 then (u.val, true) else (0, false)
  | _ => (0, false)
mutual
theorem Tm.eqb_refl : ∀ t : Tm, t.eqb t = true
  | .mk a b c => by rw [Tm.eqb, Tm.eqbs_refl c]; simp
theorem Tm.eqbs_refl : ∀ ts : List Tm, Tm.eqbs ts ts = true
  | [] => rfl
  | t :: ts => by rw [Tm.eqbs, Tm.eqb_refl t, Tm.eqbs_refl ts]; rfl
end
end Go.Proofs.YtknbgkfojmedpaaGreat
namespace Go.Proofs.YtknbgkfojmedpaaGreat
open Go.VM
mutual
def Tm.cmp : Tm → Tm → Int
  | .mk a b ts, .mk x y us => if a < x then -1 else if x < a then 1 else if b < y then -1 else if y < b then 1 else
      if (ts.length : Int) < us.length then -1 else if (us.length : Int) < ts.length then 1 else Tm.cmps ts us
def Tm.cmps : List Tm → List Tm → Int
  | t :: ts, u :: us => if t.cmp u = 0 then Tm.cmps ts us else t.cmp u
  | _, _ => 0
end
theorem Tm.cmps_drop {ts us : List Tm} {i : Nat} {t u : Tm} (h : ts[i]? = some t) (k : us[i]? = some u) : Tm.cmps (ts.drop i) (us.drop i) = if t.cmp u = 0 then Tm.cmps (ts.drop (i + 1)) (us.drop (i + 1)) else t.cmp u := by
  obtain ⟨h1, h2⟩ := List.getElem?_eq_some_iff.1 h
  obtain ⟨k1, k2⟩ := List.getElem?_eq_some_iff.1 k
  rw [List.drop_eq_getElem_cons h1, List.drop_eq_getElem_cons k1, h2, k2, Tm.cmps]
mutual
theorem Tm.cmp_zero : ∀ t u : Tm, decide (t.cmp u = 0) = t.eqb u
  | .mk a b ts, .mk x y us => by
    have ih := Tm.cmps_zero ts us
    rw [Tm.eqb, Tm.cmp]
    by_cases h1 : a < x
    · rw [if_pos h1]; have : (a == x) = false := by simp; omega
      rw [this]; rfl
    rw [if_neg h1]
    by_cases h2 : x < a
    · rw [if_pos h2]; have : (a == x) = false := by simp; omega
      rw [this]; rfl
    rw [if_neg h2]
    have : (a == x) = true := by simp; omega
    rw [this, Bool.true_and]
    by_cases h3 : b < y
    · rw [if_pos h3]; have : (b == y) = false := by simp; omega
      rw [this]; rfl
    rw [if_neg h3]
    by_cases h4 : y < b
    · rw [if_pos h4]; have : (b == y) = false := by simp; omega
      rw [this]; rfl
    rw [if_neg h4]
    have : (b == y) = true := by simp; omega
    rw [this, Bool.true_and]
    by_cases h5 : (ts.length : Int) < us.length
    · rw [if_pos h5, Tm.eqbs_len (by omega)]; rfl
    rw [if_neg h5]
    by_cases h6 : (us.length : Int) < ts.length
    · rw [if_pos h6, Tm.eqbs_len (by omega)]; rfl
    rw [if_neg h6]
    exact ih (by omega)
theorem Tm.cmps_zero : ∀ ts us : List Tm, ts.length = us.length → decide (Tm.cmps ts us = 0) = Tm.eqbs ts us
  | [], [], _ => by simp [Tm.cmps, Tm.eqbs]
  | t :: ts, u :: us, h => by
    have h1 := Tm.cmp_zero t u
    have h2 := Tm.cmps_zero ts us (by simpa using h)
    rw [Tm.cmps, Tm.eqbs]
    by_cases h0 : t.cmp u = 0
    · rw [if_pos h0, h2, ← h1, decide_eq_true h0, Bool.true_and]
    · rw [if_neg h0, ← h1, decide_eq_false h0, Bool.false_and]
  | [], _ :: _, h => by simp at h
  | _ :: _, [], h => by simp at h
end
set_option maxHeartbeats 4000000 in
theorem e119 : ∀ (n : Nat) (t u : Tm), SizeOf.sizeOf t < n → t.small → CV VP 179 [t.ag, u.ag] [] = some ⟨.d (I (t.cmp u)), [], [], 0⟩
  | 0, t, u, h, _ => absurd h (Nat.not_lt_zero _)
  | n + 1, .mk a b ts, .mk x y us, hn, hs => by
    have w0 : IntKind.i64.wrap (0 + 1) = 1 := rfl
    have w1 : IntKind.i64.wrap (1 + 1) = 2 := rfl
    have w2 : IntKind.i64.wrap (2 + 1) = 3 := rfl
    simp only [Tm.ag, Tm.op_mk, Tm.val_mk, Tm.args_mk, Tm.cmp]
    obtain ⟨hs1, hs2⟩ := hs
    refine CV_run (vf := vf179) rfl rfl ?_
    rw [vf179_start]
    have fin : ∀ st0, ts.length = us.length → At vf179K1 2 st0 ((.any :: .any :: .any :: .ptr 1 0 :: .any :: .any :: .any :: .any :: .any :: .any :: .any :: .any :: .any :: .any :: .any :: .any :: .any :: .any :: .any :: .any :: .any :: .any :: .any :: .any :: .any :: .any :: .any :: .any :: .any :: .any :: .any :: .any :: .any :: .any :: .any :: .any :: .any :: .any :: .any :: .any :: .any :: .any :: .any :: .d (.sl (ts.map Tm.row)) :: .d (I (ts.length : Nat)) :: .d (I ((0 : Nat) : Int)) :: .any :: .any :: .any :: .any :: .any :: .any :: .any :: .any :: .any :: .any :: .any :: .any :: .any :: .any :: .any :: [])) [[.d (I a), .d (I b), .d (.sl (ts.map Tm.row))], [.d (I x), .d (I y), .d (.sl (us.map Tm.row))]] [] 0 0 →
        RL VP vf179K1 vf179L1 2 st0 (outQ 2 (thn VP ((VCode.reg [⟨some 4, .mov (.c (.d (.lit (.int .i64 0)))), none⟩]).seq .ret) (retQ vf179 0 ⟨.d (I (Tm.cmps ts us)), [], [], 0⟩))) := by
      intro st0 hl hat0
      refine RL_ind (fun m st => ∃ i : Nat, i + m = ts.length ∧ Tm.cmps (ts.drop i) (us.drop i) = Tm.cmps ts us ∧ At vf179K1 2 st ((.any :: .any :: .any :: .ptr 1 0 :: .any :: .any :: .any :: .any :: .any :: .any :: .any :: .any :: .any :: .any :: .any :: .any :: .any :: .any :: .any :: .any :: .any :: .any :: .any :: .any :: .any :: .any :: .any :: .any :: .any :: .any :: .any :: .any :: .any :: .any :: .any :: .any :: .any :: .any :: .any :: .any :: .any :: .any :: .any :: .d (.sl (ts.map Tm.row)) :: .d (I (ts.length : Nat)) :: .d (I (i : Nat)) :: .any :: .any :: .any :: .any :: .any :: .any :: .any :: .any :: .any :: .any :: .any :: .any :: .any :: .any :: .any :: [])) [[.d (I a), .d (I b), .d (.sl (ts.map Tm.row))], [.d (I x), .d (I y), .d (.sl (us.map Tm.row))]] [] 0 0) ?_ ts.length _ ⟨0, Nat.zero_add _, rfl, hat0⟩
      rintro m st ⟨i, hi, hc, hat⟩ ih
      refine RL_at hat rfl rfl (vf179L1_go ?_)
      clear hat hat0
      cases m with
      | zero =>
        have h1 : ¬ i < ts.length := by omega
        rw [List.drop_eq_nil_of_le (by omega), List.drop_eq_nil_of_le (by omega), Tm.cmps] at hc
        rw [← hc]
        (repeat (first
    | refine RX_seq ?_
    | refine RX_block ?_
    | ((first | refine RX_reg ?_ | refine RX_cond' ?_ | refine RX_draw0 ?_ | refine RX_draw rfl ?_ | refine RX_skip ?_ | refine RX_gfrz ?_ | refine RX_exit ?_ | refine RX_ret ?_); try (simp only [go_sem, Nat.max_zero, List.isEmpty_cons, Int.reduceToNat, Nat.reducePow, Int.reduceEq, Int.reduceNe, Int.reduceLT, Int.reduceLE, Nat.reduceAdd, Nat.reduceLeDiff, ↓reduceIte, Nat.reduceLT, Nat.reduceMul, Nat.reduceSub, reduceCtorEq, frzLoc, rowCells, vAppM, beq_iff_eq, bne_iff_ne, bne_self_eq_false, beq_self_eq_true, beq_true, beq_false, I, B, w, vf179_res, vf179_keep, h1]))))
        all_goals simp
      | succ m =>
        have h1 : i < ts.length := by omega
        have h2 : i < us.length := by omega
        obtain ⟨t, ht⟩ : ∃ t, ts[i]? = some t := ⟨_, List.getElem?_eq_getElem h1⟩
        obtain ⟨u, hu⟩ : ∃ u, us[i]? = some u := ⟨_, List.getElem?_eq_getElem h2⟩
        have hrt : (ts.map Tm.row)[i]? = some t.row := by rw [List.getElem?_map, ht]; rfl
        have hru : (us.map Tm.row)[i]? = some u.row := by rw [List.getElem?_map, hu]; rfl
        have h119 := e119 n t u (by
          have := List.sizeOf_lt_of_mem (List.mem_of_getElem? ht)
          simp only [Tm.mk.sizeOf_spec] at hn
          omega) (Tm.smalls_mem hs2 (List.mem_of_getElem? ht))
        rw [Tm.cmps_drop ht hu] at hc
        have hwi := w_nat (i := i) (by omega)
        simp only [Tm.row_eq] at hrt hru
        simp only [Tm.ag] at h119
        by_cases h0 : t.cmp u = 0
        · rw [if_pos h0] at hc
          (repeat (first
    | refine RX_seq ?_
    | refine RX_block ?_
    | ((first | refine RX_reg ?_ | refine RX_cond' ?_ | refine RX_draw0 ?_ | refine RX_draw rfl ?_ | refine RX_skip ?_ | refine RX_gfrz ?_ | refine RX_exit ?_ | refine RX_ret ?_); try (simp only [go_sem, Nat.max_zero, List.isEmpty_cons, Int.reduceToNat, Nat.reducePow, Int.reduceEq, Int.reduceNe, Int.reduceLT, Int.reduceLE, Nat.reduceAdd, Nat.reduceLeDiff, ↓reduceIte, Nat.reduceLT, Nat.reduceMul, Nat.reduceSub, reduceCtorEq, frzLoc, rowCells, vAppM, beq_iff_eq, bne_iff_ne, bne_self_eq_false, beq_self_eq_true, beq_true, beq_false, I, B, w, vf179_res, vf179_keep, List.length_map, h1, h2, hrt, hru, h119, h0, hwi]))))
          exact ih m _ (Nat.lt_succ_self m) ⟨i + 1, by omega, hc, rfl, rfl, rfl, rfl, rfl, rfl⟩
        · rw [if_neg h0] at hc
          rw [← hc]
          (repeat (first
    | refine RX_seq ?_
    | refine RX_block ?_
    | ((first | refine RX_reg ?_ | refine RX_cond' ?_ | refine RX_draw0 ?_ | refine RX_draw rfl ?_ | refine RX_skip ?_ | refine RX_gfrz ?_ | refine RX_exit ?_ | refine RX_ret ?_); try (simp only [go_sem, Nat.max_zero, List.isEmpty_cons, Int.reduceToNat, Nat.reducePow, Int.reduceEq, Int.reduceNe, Int.reduceLT, Int.reduceLE, Nat.reduceAdd, Nat.reduceLeDiff, ↓reduceIte, Nat.reduceLT, Nat.reduceMul, Nat.reduceSub, reduceCtorEq, frzLoc, rowCells, vAppM, beq_iff_eq, bne_iff_ne, bne_self_eq_false, beq_self_eq_true, beq_true, beq_false, I, B, w, vf179_res, vf179_keep, List.length_map, h1, h2, hrt, hru, h119, ibne, h0, hwi]))))
    (repeat' (first
    | refine RX_seq ?_
    | refine RX_block ?_
    | ((first | refine RX_reg ?_ | refine RX_cond' ?_ | refine RX_draw0 ?_ | refine RX_draw rfl ?_ | refine RX_skip ?_ | refine RX_gfrz ?_ | refine RX_exit ?_ | refine RX_ret ?_); try (simp only [go_sem, Nat.max_zero, List.isEmpty_cons, Int.reduceToNat, Nat.reducePow, Int.reduceEq, Int.reduceNe, Int.reduceLT, Int.reduceLE, Nat.reduceAdd, Nat.reduceLeDiff, ↓reduceIte, Nat.reduceLT, Nat.reduceMul, Nat.reduceSub, reduceCtorEq, frzLoc, rowCells, vAppM, bne_self_eq_false, beq_self_eq_true, beq_true, beq_false, I, B, w, ibeq, ibne, bbeq, decide_eq_false_iff_not, decide_not, Bool.not_not, Decidable.not_not, Bool.not_eq_eq_eq_not, gt_iff_lt, ge_iff_le, and_false, false_and, or_self, and_self, vf179_res, vf179_keep, List.length_map, *]))
    | (refine ite_ngo (fun _ => ?_) (fun _ => ?_) <;> try (simp only [go_sem, Nat.max_zero, List.isEmpty_cons, Int.reduceToNat, Nat.reducePow, Int.reduceEq, Int.reduceNe, Int.reduceLT, Int.reduceLE, Nat.reduceAdd, Nat.reduceLeDiff, ↓reduceIte, Nat.reduceLT, Nat.reduceMul, Nat.reduceSub, reduceCtorEq, frzLoc, rowCells, vAppM, bne_self_eq_false, beq_self_eq_true, beq_true, beq_false, I, B, w, ibeq, ibne, bbeq, decide_eq_false_iff_not, decide_not, Bool.not_not, Decidable.not_not, Bool.not_eq_eq_eq_not, gt_iff_lt, ge_iff_le, and_false, false_and, or_self, and_self, vf179_res, vf179_keep, List.length_map, *]))
    | (refine ite_go (fun _ => ?_) (fun _ => ?_) <;> try (simp only [go_sem, Nat.max_zero, List.isEmpty_cons, Int.reduceToNat, Nat.reducePow, Int.reduceEq, Int.reduceNe, Int.reduceLT, Int.reduceLE, Nat.reduceAdd, Nat.reduceLeDiff, ↓reduceIte, Nat.reduceLT, Nat.reduceMul, Nat.reduceSub, reduceCtorEq, frzLoc, rowCells, vAppM, bne_self_eq_false, beq_self_eq_true, beq_true, beq_false, I, B, w, ibeq, ibne, bbeq, decide_eq_false_iff_not, decide_not, Bool.not_not, Decidable.not_not, Bool.not_eq_eq_eq_not, gt_iff_lt, ge_iff_le, and_false, false_and, or_self, and_self, vf179_res, vf179_keep, List.length_map, *]))
    | (refine RL_head ?_; simp only [go_sem, Nat.max_zero, List.isEmpty_cons, Int.reduceToNat, Nat.reducePow, Int.reduceEq, Int.reduceNe, Int.reduceLT, Int.reduceLE, Nat.reduceAdd, Nat.reduceLeDiff, ↓reduceIte, Nat.reduceLT, Nat.reduceMul, Nat.reduceSub, reduceCtorEq, frzLoc, rowCells, vAppM, bne_self_eq_false, beq_self_eq_true, beq_true, beq_false, I, B, w, ibeq, ibne, bbeq, decide_eq_false_iff_not, decide_not, Bool.not_not, Decidable.not_not, Bool.not_eq_eq_eq_not, gt_iff_lt, ge_iff_le, and_false, false_and, or_self, and_self, vf179_res, vf179_keep, List.length_map, *, St.head, forget, vf179K0, RLK_some]; refine vf179L0_go ?_)
    | refine RX_loop ?_))
    exact fin _ (by omega) ⟨rfl, rfl, rfl, rfl, rfl, rfl⟩
theorem e99 (t u : Tm) (hs : t.small) : CV VP 107 [t.ag, u.ag] [] = some ⟨.d (B (t.eqb u)), [], [], 0⟩ := by
  have h := e119 _ t u (Nat.lt_succ_self _) hs
  rw [← Tm.cmp_zero]
  refine CV_run (vf := vf107) rfl rfl ?_
  rw [vf107_start]
  simp only [Tm.ag] at *
  (repeat (first
    | refine RX_seq ?_
    | refine RX_block ?_
    | ((first | refine RX_reg ?_ | refine RX_cond' ?_ | refine RX_draw0 ?_ | refine RX_draw rfl ?_ | refine RX_skip ?_ | refine RX_gfrz ?_ | refine RX_exit ?_ | refine RX_ret ?_); try (simp only [go_sem, Nat.max_zero, List.isEmpty_cons, Int.reduceToNat, Nat.reducePow, Int.reduceEq, Int.reduceNe, Int.reduceLT, Int.reduceLE, Nat.reduceAdd, Nat.reduceLeDiff, ↓reduceIte, Nat.reduceLT, Nat.reduceMul, Nat.reduceSub, reduceCtorEq, frzLoc, rowCells, vAppM, beq_iff_eq, bne_iff_ne, bne_self_eq_false, beq_self_eq_true, beq_true, beq_false, I, B, w, vf107_res, vf107_keep, h, ibeq]))))
end Go.Proofs.YtknbgkfojmedpaaGreat
namespace Go.Proofs.YtknbgkfojmedpaaGreat
open Go.VM
theorem eqT {a b : Int} (h : a = b) : eqF a b = true := by rw [eqF_eq]; simpa using h
def IsS (r : List D) : Prop := ∃ t : Tm, t.small ∧ r = t.row
def IsSs (rows : List (List D)) : Prop := ∃ ts : List Tm, Tm.smalls ts ∧ rows = ts.map Tm.row
theorem IsSs.nil : IsSs [] := ⟨[], trivial, rfl⟩
theorem IsSs.cons {r : List D} {rs : List (List D)} (h : IsS r) (hs : IsSs rs) : IsSs (r :: rs) := by
  obtain ⟨t, h1, rfl⟩ := h
  obtain ⟨ts, h2, rfl⟩ := hs
  exact ⟨t :: ts, ⟨h1, h2⟩, rfl⟩
theorem IsS.mk {a b : Int} {rows : List (List D)} (h : IsSs rows) (hl : rows.length < 1000) : IsS [I a, I b, .sl rows] := by
  obtain ⟨ts, h1, rfl⟩ := h
  rw [List.length_map] at hl
  exact ⟨.mk a b ts, ⟨by omega, h1⟩, (Tm.row_mk a b ts).symm⟩
theorem IsS.leaf {a b : Int} : IsS [I a, I b, .sl []] := IsS.mk .nil (by decide)
theorem IsS.agP {x y z : D} (h : IsS [x, y, z]) : ∃ t : Tm, t.small ∧ V.agg [.d x, .d y, .d z] = t.ag := by
  obtain ⟨t, h1, h2⟩ := h
  rw [Tm.row_eq] at h2
  simp only [List.cons.injEq, and_true] at h2
  obtain ⟨rfl, rfl, rfl⟩ := h2
  exact ⟨t, h1, rfl⟩
end Go.Proofs.YtknbgkfojmedpaaGreat
namespace Go.Proofs.YtknbgkfojmedpaaGreat
open Go.VM
abbrev U (n : Int) : D := .lit (.int .u64 n)
def fam (six : Bool) : Int := if six then 6 else 4
def famH (six : Bool) : Int := if six then 2305843009213693952 else 0
def adr (six : Bool) (side low : Int) : Int := (if six then 0 else 167772160) + side * 256 + low
theorem e91 (side low : Int) (six : Bool) (h1 : 0 ≤ side) (h2 : side ≤ 7) (h3 : 0 ≤ low) (h4 : low ≤ 65535) :
    CV VP 174 [.d (I side), .d (I low), .d (B six)] [] = some ⟨.agg [.d (I (fam six)), .d (U (famH six)), .d (U (adr six side low))], [], [], 0⟩ := by
  have w1 : IntKind.i64.wrap (side * 256) = side * 256 := w_in (by omega) (by omega)
  have w2 : IntKind.i64.wrap (side * 256 + low) = side * 256 + low := w_in (by omega) (by omega)
  have w3 : IntKind.i64.wrap (167772160 + side * 256) = 167772160 + side * 256 := w_in (by omega) (by omega)
  have w4 : IntKind.i64.wrap (167772160 + side * 256 + low) = 167772160 + side * 256 + low := w_in (by omega) (by omega)
  have u1 : IntKind.u64.wrap (side * 256 + low) = side * 256 + low := by simp [IntKind.wrap, IntKind.signed, IntKind.bits]; omega
  have u2 : IntKind.u64.wrap (167772160 + side * 256 + low) = 167772160 + side * 256 + low := by simp [IntKind.wrap, IntKind.signed, IntKind.bits]; omega
  have p8 : (2 : Int) ^ (min 8 64) = 256 := rfl
  have h8 : ¬ ((8 : Int) < 0) := by decide
  refine CV_run (vf := vf174) rfl rfl ?_
  rw [vf174_start]
  cases six with
  | true =>
    have a1 : adr true side low = side * 256 + low := by unfold adr; simp
    rw [a1]
    simp only [fam, famH]
    (repeat (first
    | refine RX_seq ?_
    | refine RX_block ?_
    | ((first | refine RX_reg ?_ | refine RX_cond' ?_ | refine RX_draw0 ?_ | refine RX_draw rfl ?_ | refine RX_skip ?_ | refine RX_gfrz ?_ | refine RX_exit ?_ | refine RX_ret ?_); try (simp only [go_sem, Nat.max_zero, List.isEmpty_cons, Int.reduceToNat, Nat.reducePow, Int.reduceEq, Int.reduceNe, Int.reduceLT, Int.reduceLE, Nat.reduceAdd, Nat.reduceLeDiff, ↓reduceIte, Nat.reduceLT, Nat.reduceMul, Nat.reduceSub, reduceCtorEq, frzLoc, rowCells, vAppM, beq_iff_eq, bne_iff_ne, bne_self_eq_false, beq_self_eq_true, beq_true, beq_false, I, B, w, vf174_res, vf174_keep, vShift, p8, h8, w1, w2, u1]))))
  | false =>
    have a1 : adr false side low = 167772160 + side * 256 + low := by unfold adr; simp
    rw [a1]
    simp only [fam, famH]
    (repeat (first
    | refine RX_seq ?_
    | refine RX_block ?_
    | ((first | refine RX_reg ?_ | refine RX_cond' ?_ | refine RX_draw0 ?_ | refine RX_draw rfl ?_ | refine RX_skip ?_ | refine RX_gfrz ?_ | refine RX_exit ?_ | refine RX_ret ?_); try (simp only [go_sem, Nat.max_zero, List.isEmpty_cons, Int.reduceToNat, Nat.reducePow, Int.reduceEq, Int.reduceNe, Int.reduceLT, Int.reduceLE, Nat.reduceAdd, Nat.reduceLeDiff, ↓reduceIte, Nat.reduceLT, Nat.reduceMul, Nat.reduceSub, reduceCtorEq, frzLoc, rowCells, vAppM, beq_iff_eq, bne_iff_ne, bne_self_eq_false, beq_self_eq_true, beq_true, beq_false, I, B, w, vf174_res, vf174_keep, vShift, p8, h8, w1, w3, w4, u2]))))
end Go.Proofs.YtknbgkfojmedpaaGreat
namespace Go.Proofs.YtknbgkfojmedpaaGreat
open Go.VM
structure Pk where
  (f h a f' h' a' pr sp tp id : Int)
def Pk.ds (p : Pk) : List D := [I p.f, U p.h, U p.a, I p.f', U p.h', U p.a', I p.pr, I p.sp, I p.tp, I p.id]
def Pk.ns (p : Pk) : List Int := [p.f, w p.h, w p.a, p.f', w p.h', w p.a', p.pr, p.sp, p.tp, p.id]
def nT (n : Int) : Tm := .mk 1 n []
def Pk.tm (p : Pk) : Tm := .mk 3 0 (p.ns.map nT)
theorem e75 (n : Int) : CV VP 44 [.d (I n)] [] = some ⟨.agg [.d (I 1), .d (I n), .d (.sl [])], [], [], 0⟩ := by
  refine CV_run (vf := vf44) rfl rfl ?_
  rw [vf44_start]
  (repeat (first
    | refine RX_seq ?_
    | refine RX_block ?_
    | ((first | refine RX_reg ?_ | refine RX_cond' ?_ | refine RX_draw0 ?_ | refine RX_draw rfl ?_ | refine RX_skip ?_ | refine RX_gfrz ?_ | refine RX_exit ?_ | refine RX_ret ?_); try (simp only [go_sem, Nat.max_zero, List.isEmpty_cons, Int.reduceToNat, Nat.reducePow, Int.reduceEq, Int.reduceNe, Int.reduceLT, Int.reduceLE, Nat.reduceAdd, Nat.reduceLeDiff, ↓reduceIte, Nat.reduceLT, Nat.reduceMul, Nat.reduceSub, reduceCtorEq, frzLoc, rowCells, vAppM, beq_iff_eq, bne_iff_ne, bne_self_eq_false, beq_self_eq_true, beq_true, beq_false, I, B, w, e76, vf44_res, vf44_keep]))))
end Go.Proofs.YtknbgkfojmedpaaGreat
namespace Go.Proofs.YtknbgkfojmedpaaGreat
open Go.VM
def validP (f h a : Int) : Prop := f = 6 ∨ f = 4 ∧ h = 0 ∧ a < 4294967296
instance (f h a : Int) : Decidable (validP f h a) := by unfold validP; infer_instance
def portP (n : Int) : Prop := -1 ≤ n ∧ n ≤ 65535
instance (n : Int) : Decidable (portP n) := by unfold portP; infer_instance
end Go.Proofs.YtknbgkfojmedpaaGreat
namespace Go.Proofs.YtknbgkfojmedpaaGreat
open Go.VM
structure Bx where
  f : Int
  h : Int
  a0 : Int
  b0 : Int
  a1 : Int
  b1 : Int
  p0 : Int
  p1 : Int
  l0 : Int
  l1 : Int
  r0 : Int
  r1 : Int
abbrev bxL (f h a0 b0 a1 b1 p0 p1 l0 l1 r0 r1 : Int) : List D := [I f, U h, U a0, I f, U h, U b0, I f, U h, U a1, I f, U h, U b1, I p0, I p1, I l0, I l1, I r0, I r1]
abbrev bxV (f h a0 b0 a1 b1 p0 p1 l0 l1 r0 r1 : Int) : V := .agg [.d (I f), .d (U h), .d (U a0), .d (I f), .d (U h), .d (U b0), .d (I f), .d (U h), .d (U a1), .d (I f), .d (U h), .d (U b1), .d (I p0), .d (I p1), .d (I l0), .d (I l1), .d (I r0), .d (I r1)]
abbrev Bx.row (x : Bx) : List D := bxL x.f x.h x.a0 x.b0 x.a1 x.b1 x.p0 x.p1 x.l0 x.l1 x.r0 x.r1
abbrev Bx.ag (x : Bx) : V := bxV x.f x.h x.a0 x.b0 x.a1 x.b1 x.p0 x.p1 x.l0 x.l1 x.r0 x.r1
def num (n : Int) : Prop := -1 ≤ n ∧ n ≤ 65535
structure Bx.ok (x : Bx) : Prop where
  fam : x.f = 4 ∧ x.h = 0 ∨ x.f = 6 ∧ x.h = 2305843009213693952
  p0 : num x.p0
  p1 : num x.p1
  l0 : num x.l0
  l1 : num x.l1
  r0 : num x.r0
  r1 : num x.r1
abbrev Bx.zero : Bx := ⟨0, 0, 0, 0, 0, 0, 0, 0, 0, 0, 0, 0⟩
def Bx.swap (x : Bx) : Bx := ⟨x.f, x.h, x.a1, x.b1, x.a0, x.b0, x.p0, x.p1, x.r0, x.r1, x.l0, x.l1⟩
structure Bx.fine (x : Bx) : Prop where
  a0 : 0 ≤ x.a0
  b0 : x.b0 < 4294967296
  a1 : 0 ≤ x.a1
  b1 : x.b1 < 4294967296
  ab0 : x.a0 ≤ x.b0
  ab1 : x.a1 ≤ x.b1
  p0 : 0 ≤ x.p0
  p01 : x.p0 ≤ x.p1
  p1 : x.p1 ≤ 255
  l01 : x.l0 ≤ x.l1
  r01 : x.r0 ≤ x.r1
structure Ru where
  act : Int
  tm : ByteArray
  bs : List Bx
abbrev Ru.row (r : Ru) : List D := [I r.act, .lit (.string r.tm), .sl (r.bs.map Bx.row)]
structure Ru.ok (r : Ru) : Prop where
  len : r.bs.length < 1000
  bs : ∀ b ∈ r.bs, b.ok
theorem e51 (x : Bx) : CV VP 51 [x.ag] [] = some ⟨x.swap.ag, [], [], 0⟩ := by
  refine CV_run (vf := vf51) rfl rfl ?_
  rw [vf51_start]
  simp only [Bx.swap]
  (repeat (first
    | refine RX_seq ?_
    | refine RX_block ?_
    | ((first | refine RX_reg ?_ | refine RX_cond' ?_ | refine RX_draw0 ?_ | refine RX_draw rfl ?_ | refine RX_skip ?_ | refine RX_gfrz ?_ | refine RX_exit ?_ | refine RX_ret ?_); try (simp only [go_sem, Nat.max_zero, List.isEmpty_cons, Int.reduceToNat, Nat.reducePow, Int.reduceEq, Int.reduceNe, Int.reduceLT, Int.reduceLE, Nat.reduceAdd, Nat.reduceLeDiff, ↓reduceIte, Nat.reduceLT, Nat.reduceMul, Nat.reduceSub, reduceCtorEq, frzLoc, rowCells, vAppM, beq_iff_eq, bne_iff_ne, bne_self_eq_false, beq_self_eq_true, beq_true, beq_false, I, B, w, vf51_res, vf51_keep]))))
def bx0 (six : Bool) (s : Int) : Bx := ⟨fam six, famH six, adr six s 0, adr six s 255, adr six (1 - s) 0, adr six (1 - s) 255, 0, 255, -1, 65535, -1, 65535⟩
def bxF (l : List Int) (s : Int) (k : Nat) : Bx × Nat :=
  let six := decide (nxV l k 8 = 7)
  let k1 := nxA l k
  let k2 := nxA l k1
  let k3 := nxA l k2
  let k4 := nxA l k3
  let k5 := nxA l k4
  let lo := nxV l k1 8 * 16
  let up := 255 - nxV l k2 8 * 8
  let x := nxV l k3 5
  let b := bx0 six s
  if x = 1 then ({ b with a0 := adr six s lo, b0 := adr six s up }, k4)
  else if x = 2 then ({ b with a1 := adr six (1 - s) lo, b1 := adr six (1 - s) up }, k4)
  else if x = 3 then ({ b with p0 := 6, p1 := 6 + nxV l k4 12, r0 := nxV l k5 4 * 20, r1 := 100 }, nxA l k5)
  else if x = 4 then ({ b with p0 := 6, p1 := 17, l0 := -1, l1 := 80 }, k4)
  else (b, k4)
def BxP (l : List Int) (s : Int) (k : Nat) (p : Bx × Nat) : Prop := p.1.ok ∧ ∀ (id : Nat) bl, CtxOk bl id →
    CV VP 102 [.ptr id 0, .d (I s)] (cx bl id l (k : Nat) []) = some ⟨p.1.ag, cx bl id l (p.2 : Nat) [], [], 0⟩
theorem bxF_both {l : List Int} (hB : Bytes l) {s : Int} (hs0 : 0 ≤ s) (hs1 : s ≤ 1) (k : Nat) : (bxF l s k).1.ok ∧ (bxF l s k).1.fine := by
  have q1 := nxV_range hB (k := nxA l k) (n := 8) (by decide)
  have q2 := nxV_range hB (k := nxA l (nxA l k)) (n := 8) (by decide)
  have q12 := nxV_range hB (k := nxA l (nxA l (nxA l (nxA l k)))) (n := 12) (by decide)
  have q4 := nxV_range hB (k := nxA l (nxA l (nxA l (nxA l (nxA l k))))) (n := 4) (by decide)
  unfold bxF
  generalize decide (nxV l k 8 = 7) = six at *
  simp only
  cases six
  all_goals
    repeat' split
  all_goals
    refine ⟨⟨?_, ?_, ?_, ?_, ?_, ?_, ?_⟩, ⟨?_, ?_, ?_, ?_, ?_, ?_, ?_, ?_, ?_, ?_, ?_⟩⟩ <;> simp only [bx0, fam, famH, adr, num, if_true, if_false, Bool.false_eq_true] <;> first | omega | simp
set_option maxHeartbeats 4000000 in
theorem bxF_ok {l : List Int} (hB : Bytes l) (s : Int) (hs0 : 0 ≤ s) (hs1 : s ≤ 1) (k : Nat) : BxP l s k (bxF l s k) := by
  refine ⟨(bxF_both hB hs0 hs1 k).1, fun id bl h => ?_⟩
  have q1 := nxV_range hB (k := nxA l k) (n := 8) (by decide)
  have q2 := nxV_range hB (k := nxA l (nxA l k)) (n := 8) (by decide)
  have q12 := nxV_range hB (k := nxA l (nxA l (nxA l (nxA l k)))) (n := 12) (by decide)
  have q4 := nxV_range hB (k := nxA l (nxA l (nxA l (nxA l (nxA l k))))) (n := 4) (by decide)
  have cN : ∀ (n : Int), 0 < n → n ≤ 256 → ∀ (k : Nat) (own : List (List V)), own.map V.erL = own → own.all (V.ltbL (bl.length + own.length)) = true → CV VP 16 [.ptr id 0, .d (I n)] (cx bl id l (k : Nat) own) = some ⟨.d (I (nxV l k n)), cx bl id l (nxA l k : Nat) own, [], 0⟩ := fun n h1 h2 k own => e29 hB h h1 h2
  have c8 := cN 8 (by decide) (by decide)
  have c5 := cN 5 (by decide) (by decide)
  have c12 := cN 12 (by decide) (by decide)
  have c4 := cN 4 (by decide) (by decide)
  have hid := h.lt
  clear cN
  simp only [bxF]
  generalize hk1 : nxA l k = k1 at *
  generalize hk2 : nxA l k1 = k2 at *
  generalize hk3 : nxA l k2 = k3 at *
  generalize hk4 : nxA l k3 = k4 at *
  generalize hk5 : nxA l k4 = k5 at *
  have m1 : IntKind.i64.wrap (nxV l k1 8 * 16) = nxV l k1 8 * 16 := w_in (by omega) (by omega)
  have m2 : IntKind.i64.wrap (nxV l k2 8 * 8) = nxV l k2 8 * 8 := w_in (by omega) (by omega)
  have m3 : IntKind.i64.wrap (255 - nxV l k2 8 * 8) = 255 - nxV l k2 8 * 8 := w_in (by omega) (by omega)
  have m4 : IntKind.i64.wrap (1 - s) = 1 - s := w_in (by omega) (by omega)
  have m5 : IntKind.i64.wrap (6 + nxV l k4 12) = 6 + nxV l k4 12 := w_in (by omega) (by omega)
  have m6 : IntKind.i64.wrap (nxV l k5 4 * 20) = nxV l k5 4 * 20 := w_in (by omega) (by omega)
  generalize hsix : decide (nxV l k 8 = 7) = six at *
  have r1 := e91 s 0 six hs0 (by omega) (by decide) (by decide)
  have r2 := e91 s 255 six hs0 (by omega) (by decide) (by decide)
  have r3 := e91 (1 - s) 0 six (by omega) (by omega) (by decide) (by decide)
  have r4 := e91 (1 - s) 255 six (by omega) (by omega) (by decide) (by decide)
  have r5 := e91 s (nxV l k1 8 * 16) six hs0 (by omega) (by omega) (by omega)
  have r6 := e91 s (255 - nxV l k2 8 * 8) six hs0 (by omega) (by omega) (by omega)
  have r7 := e91 (1 - s) (nxV l k1 8 * 16) six (by omega) (by omega) (by omega) (by omega)
  have r8 := e91 (1 - s) (255 - nxV l k2 8 * 8) six (by omega) (by omega) (by omega) (by omega)
  clear q1 q2 q12 q4 hs0 hs1 hB
  refine CV_run (vf := vf102) rfl rfl ?_
  rw [vf102_start]
  simp only [bx0]
  (repeat' (first
    | refine RX_seq ?_
    | refine RX_block ?_
    | ((first | refine RX_reg ?_ | refine RX_cond' ?_ | refine RX_draw0 ?_ | refine RX_draw rfl ?_ | refine RX_skip ?_ | refine RX_gfrz ?_ | refine RX_exit ?_ | refine RX_ret ?_); try (simp only [go_sem, Nat.max_zero, List.isEmpty_cons, Int.reduceToNat, Nat.reducePow, Int.reduceEq, Int.reduceNe, Int.reduceLT, Int.reduceLE, Nat.reduceAdd, Nat.reduceLeDiff, ↓reduceIte, Nat.reduceLT, Nat.reduceMul, Nat.reduceSub, reduceCtorEq, frzLoc, rowCells, vAppM, bne_self_eq_false, beq_self_eq_true, beq_true, beq_false, I, B, w, ibeq, ibne, bbeq, decide_eq_false_iff_not, decide_not, Bool.not_not, Decidable.not_not, Bool.not_eq_eq_eq_not, gt_iff_lt, ge_iff_le, and_false, false_and, or_self, and_self, vf102_res, vf102_keep, cx_len, cx_app, cx_own0, cx_own, cx_setOwn0, cx_setOwn, cx_take, cx_takeN, Nat.add_right_cancel_iff, Nat.lt_irrefl, cx_nlt, Nat.not_lt_zero, cx_get' h, cx_setId' h, cx_er h, cx_all0 h, cx_all h, CtxOk.lt h, CtxOk.ne0 h, *]))
    | (refine ite_ngo (fun _ => ?_) (fun _ => ?_) <;> try (simp only [go_sem, Nat.max_zero, List.isEmpty_cons, Int.reduceToNat, Nat.reducePow, Int.reduceEq, Int.reduceNe, Int.reduceLT, Int.reduceLE, Nat.reduceAdd, Nat.reduceLeDiff, ↓reduceIte, Nat.reduceLT, Nat.reduceMul, Nat.reduceSub, reduceCtorEq, frzLoc, rowCells, vAppM, bne_self_eq_false, beq_self_eq_true, beq_true, beq_false, I, B, w, ibeq, ibne, bbeq, decide_eq_false_iff_not, decide_not, Bool.not_not, Decidable.not_not, Bool.not_eq_eq_eq_not, gt_iff_lt, ge_iff_le, and_false, false_and, or_self, and_self, vf102_res, vf102_keep, cx_len, cx_app, cx_own0, cx_own, cx_setOwn0, cx_setOwn, cx_take, cx_takeN, Nat.add_right_cancel_iff, Nat.lt_irrefl, cx_nlt, Nat.not_lt_zero, cx_get' h, cx_setId' h, cx_er h, cx_all0 h, cx_all h, CtxOk.lt h, CtxOk.ne0 h, *]))
    | (refine ite_go (fun _ => ?_) (fun _ => ?_) <;> try (simp only [go_sem, Nat.max_zero, List.isEmpty_cons, Int.reduceToNat, Nat.reducePow, Int.reduceEq, Int.reduceNe, Int.reduceLT, Int.reduceLE, Nat.reduceAdd, Nat.reduceLeDiff, ↓reduceIte, Nat.reduceLT, Nat.reduceMul, Nat.reduceSub, reduceCtorEq, frzLoc, rowCells, vAppM, bne_self_eq_false, beq_self_eq_true, beq_true, beq_false, I, B, w, ibeq, ibne, bbeq, decide_eq_false_iff_not, decide_not, Bool.not_not, Decidable.not_not, Bool.not_eq_eq_eq_not, gt_iff_lt, ge_iff_le, and_false, false_and, or_self, and_self, vf102_res, vf102_keep, cx_len, cx_app, cx_own0, cx_own, cx_setOwn0, cx_setOwn, cx_take, cx_takeN, Nat.add_right_cancel_iff, Nat.lt_irrefl, cx_nlt, Nat.not_lt_zero, cx_get' h, cx_setId' h, cx_er h, cx_all0 h, cx_all h, CtxOk.lt h, CtxOk.ne0 h, *]))))
end Go.Proofs.YtknbgkfojmedpaaGreat
namespace Go.Proofs.YtknbgkfojmedpaaGreat
open Go.VM
def silver : ByteArray := ⟨#[115, 105, 108, 118, 101, 114]⟩
def gold : ByteArray := ⟨#[103, 111, 108, 100]⟩
section
variable {o1 xs : List (List V)} {j : Nat} {y : List V}
end
def DB (own : List (List V)) : Prop := ∀ b ∈ own, ∃ ds : List D, b = ds.map .d
theorem DB.er {own : List (List V)} (h : DB own) : own.map V.erL = own := by
  have : ∀ b ∈ own, V.erL b = b := fun b hb => by obtain ⟨ds, rfl⟩ := h b hb; exact erL_d ds
  rw [List.map_congr_left this, List.map_id']
theorem DB.ltb {own : List (List V)} (h : DB own) (n : Nat) : own.all (V.ltbL n) = true := by
  rw [List.all_eq_true]
  intro b hb
  obtain ⟨ds, rfl⟩ := h b hb
  exact ltbL_d n ds
end Go.Proofs.YtknbgkfojmedpaaGreat
namespace Go.Proofs.YtknbgkfojmedpaaGreat
open Go.VM
end Go.Proofs.YtknbgkfojmedpaaGreat
namespace Go.Proofs.YtknbgkfojmedpaaGreat
open Go.VM
def bypass : Bx := ⟨4, 0, adr false 0 0, adr false 7 255, adr false 0 0, adr false 7 255, 0, 255, -1, 65535, -1, 65535⟩
noncomputable def endF (l : List Int) (k : Nat) : List Ru × Nat := if nxV l k 3 = 2 then ([⟨1, ⟨#[]⟩, [bypass]⟩], nxA l k) else ([], nxA l k)
end Go.Proofs.YtknbgkfojmedpaaGreat
namespace Go.Proofs.YtknbgkfojmedpaaGreat
open Go.VM
end Go.Proofs.YtknbgkfojmedpaaGreat
namespace Go.Proofs.YtknbgkfojmedpaaGreat
open Go.VM
def rangeP (p q : Int) : Prop := -1 ≤ p ∧ q ≤ 65535 ∧ p ≤ q
instance (p q : Int) : Decidable (rangeP p q) := by unfold rangeP; infer_instance
end Go.Proofs.YtknbgkfojmedpaaGreat
namespace Go.Proofs.YtknbgkfojmedpaaGreat
open Go.VM
end Go.Proofs.YtknbgkfojmedpaaGreat
namespace Go.Proofs.YtknbgkfojmedpaaGreat
open Go.VM
structure Ru.fine (r : Ru) : Prop where
  act : (r.act = 2 ∧ (r.tm = gold ∨ r.tm = silver)) ∨ ((r.act = 0 ∨ r.act = 1) ∧ r.tm = ⟨#[]⟩)
  pos : 0 < r.bs.length
  len : r.bs.length ≤ 16
  bs : ∀ b ∈ r.bs, b.ok ∧ b.fine
end Go.Proofs.YtknbgkfojmedpaaGreat
namespace Go.Proofs.YtknbgkfojmedpaaGreat
open Go.VM
structure Gw where
  id : Int
  peer : Int
  loc : Int
  rem : Int
  rules : List Ru
  groups : List Int
  now : Int
  count : Int
  guard : Tm
  vault : Tm
  redir : Int
  half : List (List D)
  sas : List (List D)
  kids : List (List D)
  tickets : List (List D)
def numRow (n : Int) : List D := [I n]
abbrev Gw.cells (g : Gw) : List D := [I g.id, I g.peer, I g.loc, I g.rem, .sl (g.rules.map Ru.row), .sl (g.groups.map numRow), I g.now, I g.count, I g.guard.op, I g.guard.val, .sl (g.guard.args.map Tm.row), I g.vault.op, I g.vault.val, .sl (g.vault.args.map Tm.row), I g.redir, .sl g.half, .sl g.sas, .sl g.kids, .sl g.tickets]
abbrev Gw.ag (g : Gw) : V := .agg (g.cells.map .d)
def gNm (a b : Int) : Tm := .mk 2 (w (w (a * 1048576) + b)) []
end Go.Proofs.YtknbgkfojmedpaaGreat
namespace Go.Proofs.YtknbgkfojmedpaaGreat
open Go.VM
end Go.Proofs.YtknbgkfojmedpaaGreat
namespace Go.Proofs.YtknbgkfojmedpaaGreat
open Go.VM
def pT (n : Int) (ts : List Tm) : Tm := .mk 3 0 (nT n :: ts)
theorem nT_row (n : Int) : (nT n).row = [I 1, I n, .sl []] := by simp [nT, Tm.row_mk]
theorem e40 (n : Int) (ts : List Tm) (h : ts.length < 1000000) : CV VP 64 [.d (I n), .d (.sl (ts.map Tm.row))] [] = some ⟨(pT n ts).ag, [], [], 0⟩ := by
  have h1 := Tm.rows3 (nT n :: ts) (by simp only [List.length_cons]; omega)
  have h2 := Tm.rows3 ts (by omega)
  have h33 := e33 h1
  have hra : (ts.map Tm.row).all (fun r => r.length == 3) = true := h2.2
  have hl : ts.length ≤ 4294967296 := by omega
  have hl2 : ts.length + 1 ≤ 4294967296 := by omega
  simp only [pT, Tm.ag, Tm.op_mk, Tm.val_mk, Tm.args_mk, List.map_cons, nT_row] at h33 ⊢
  refine CV_run (vf := vf64) rfl rfl ?_
  rw [vf64_start]
  (repeat (first
    | refine RX_seq ?_
    | refine RX_block ?_
    | ((first | refine RX_reg ?_ | refine RX_cond' ?_ | refine RX_draw0 ?_ | refine RX_draw rfl ?_ | refine RX_skip ?_ | refine RX_gfrz ?_ | refine RX_exit ?_ | refine RX_ret ?_); try (simp only [go_sem, Nat.max_zero, List.isEmpty_cons, Int.reduceToNat, Nat.reducePow, Int.reduceEq, Int.reduceNe, Int.reduceLT, Int.reduceLE, Nat.reduceAdd, Nat.reduceLeDiff, ↓reduceIte, Nat.reduceLT, Nat.reduceMul, Nat.reduceSub, reduceCtorEq, frzLoc, rowCells, vAppM, beq_iff_eq, bne_iff_ne, bne_self_eq_false, beq_self_eq_true, beq_true, beq_false, I, B, w, vf64_res, vf64_keep, e75, h33, hra, hl, hl2, List.length_map, Nat.add_comm 1]))))
def bqN (f0 h0 a0 f1 h1 a1 f2 h2 a2 f3 h3 a3 p0 p1 l0 l1 r0 r1 : Int) : List Tm :=
  [nT f0, nT (w h0), nT (w a0), nT f1, nT (w h1), nT (w a1), nT f2, nT (w h2), nT (w a2), nT f3, nT (w h3), nT (w a3), nT p0, nT p1, nT l0, nT l1, nT r0, nT r1]
def byT (t : List UInt8) : List Tm := t.map fun c => nT (c.toNat : Int)
set_option maxHeartbeats 4000000 in
theorem e64 (f0 h0 a0 f1 h1 a1 f2 h2 a2 f3 h3 a3 p0 p1 l0 l1 r0 r1 : Int) (t : ByteArray) (ht : t.size < 100000) :
    CV VP 103 [.agg [.d (I f0), .d (U h0), .d (U a0), .d (I f1), .d (U h1), .d (U a1), .d (I f2), .d (U h2), .d (U a2), .d (I f3), .d (U h3), .d (U a3), .d (I p0), .d (I p1), .d (I l0), .d (I l1), .d (I r0), .d (I r1)], .d (.lit (.string t))] [] =
      some ⟨(pT 11 (bqN f0 h0 a0 f1 h1 a1 f2 h2 a2 f3 h3 a3 p0 p1 l0 l1 r0 r1 ++ byT t.data.toList)).ag, [], [], 0⟩ := by
  have w0 : IntKind.i64.wrap (0 + 1) = 1 := rfl
  have w1 : IntKind.i64.wrap (1 + 1) = 2 := rfl
  have w2 : IntKind.i64.wrap (2 + 1) = 3 := rfl
  have w3 : IntKind.i64.wrap (3 + 1) = 4 := rfl
  generalize hN : bqN f0 h0 a0 f1 h1 a1 f2 h2 a2 f3 h3 a3 p0 p1 l0 l1 r0 r1 = N
  have hNr : N.map Tm.row = [[I 1, I f0, .sl []], [I 1, I (w h0), .sl []], [I 1, I (w a0), .sl []], [I 1, I f1, .sl []], [I 1, I (w h1), .sl []], [I 1, I (w a1), .sl []], [I 1, I f2, .sl []], [I 1, I (w h2), .sl []], [I 1, I (w a2), .sl []], [I 1, I f3, .sl []], [I 1, I (w h3), .sl []], [I 1, I (w a3), .sl []], [I 1, I p0, .sl []], [I 1, I p1, .sl []], [I 1, I l0, .sl []], [I 1, I l1, .sl []], [I 1, I r0, .sl []], [I 1, I r1, .sl []]] := by
    rw [← hN]; simp only [bqN, List.map_cons, List.map_nil, nT_row]
  have hNl : N.length = 18 := by rw [← hN]; rfl
  refine CV_run (vf := vf103) rfl rfl ?_
  rw [vf103_start]
  (repeat' (first
    | refine RX_seq ?_
    | refine RX_block ?_
    | ((first | refine RX_reg ?_ | refine RX_cond' ?_ | refine RX_draw0 ?_ | refine RX_draw rfl ?_ | refine RX_skip ?_ | refine RX_gfrz ?_ | refine RX_exit ?_ | refine RX_ret ?_); try (simp only [go_sem, Nat.max_zero, List.isEmpty_cons, Int.reduceToNat, Nat.reducePow, Int.reduceEq, Int.reduceNe, Int.reduceLT, Int.reduceLE, Nat.reduceAdd, Nat.reduceLeDiff, ↓reduceIte, Nat.reduceLT, Nat.reduceMul, Nat.reduceSub, reduceCtorEq, frzLoc, rowCells, vAppM, bne_self_eq_false, beq_self_eq_true, beq_true, beq_false, I, B, w, ibeq, ibne, bbeq, decide_eq_false_iff_not, decide_not, Bool.not_not, Decidable.not_not, Bool.not_eq_eq_eq_not, gt_iff_lt, ge_iff_le, and_false, false_and, or_self, and_self, vf103_res, vf103_keep, e75, *]))
    | (refine ite_ngo (fun _ => ?_) (fun _ => ?_) <;> try (simp only [go_sem, Nat.max_zero, List.isEmpty_cons, Int.reduceToNat, Nat.reducePow, Int.reduceEq, Int.reduceNe, Int.reduceLT, Int.reduceLE, Nat.reduceAdd, Nat.reduceLeDiff, ↓reduceIte, Nat.reduceLT, Nat.reduceMul, Nat.reduceSub, reduceCtorEq, frzLoc, rowCells, vAppM, bne_self_eq_false, beq_self_eq_true, beq_true, beq_false, I, B, w, ibeq, ibne, bbeq, decide_eq_false_iff_not, decide_not, Bool.not_not, Decidable.not_not, Bool.not_eq_eq_eq_not, gt_iff_lt, ge_iff_le, and_false, false_and, or_self, and_self, vf103_res, vf103_keep, e75, *]))
    | (refine ite_go (fun _ => ?_) (fun _ => ?_) <;> try (simp only [go_sem, Nat.max_zero, List.isEmpty_cons, Int.reduceToNat, Nat.reducePow, Int.reduceEq, Int.reduceNe, Int.reduceLT, Int.reduceLE, Nat.reduceAdd, Nat.reduceLeDiff, ↓reduceIte, Nat.reduceLT, Nat.reduceMul, Nat.reduceSub, reduceCtorEq, frzLoc, rowCells, vAppM, bne_self_eq_false, beq_self_eq_true, beq_true, beq_false, I, B, w, ibeq, ibne, bbeq, decide_eq_false_iff_not, decide_not, Bool.not_not, Decidable.not_not, Bool.not_eq_eq_eq_not, gt_iff_lt, ge_iff_le, and_false, false_and, or_self, and_self, vf103_res, vf103_keep, e75, *]))
    | (refine RL_head ?_; simp only [go_sem, Nat.max_zero, List.isEmpty_cons, Int.reduceToNat, Nat.reducePow, Int.reduceEq, Int.reduceNe, Int.reduceLT, Int.reduceLE, Nat.reduceAdd, Nat.reduceLeDiff, ↓reduceIte, Nat.reduceLT, Nat.reduceMul, Nat.reduceSub, reduceCtorEq, frzLoc, rowCells, vAppM, bne_self_eq_false, beq_self_eq_true, beq_true, beq_false, I, B, w, ibeq, ibne, bbeq, decide_eq_false_iff_not, decide_not, Bool.not_not, Decidable.not_not, Bool.not_eq_eq_eq_not, gt_iff_lt, ge_iff_le, and_false, false_and, or_self, and_self, vf103_res, vf103_keep, e75, *, St.head, forget, vf103K0, RLK_some]; refine vf103L0_go ?_)
    | refine RX_loop ?_))
  refine (?_ : RL VP vf103K1 vf103L1 2 _ _)
  refine RL_ind (fun m st => ∃ (i g gn : Nat) (rows : List (List D)), i + m = t.size ∧ rows = (N ++ byT (t.data.toList.take i)).map Tm.row ∧
    At vf103K1 2 st ((.any :: .d (.lit (.string t)) :: .any :: .any :: .ptr 1 0 :: .sl 3 rows (.own 0 g) :: .any :: .any :: .d (I (i : Nat)) :: .any :: .any :: .any :: .any :: .any :: .any :: .any :: .any :: .any :: .any :: .any :: .any :: .any :: .any :: .any :: .any :: .any :: .any :: .any :: .any :: .any :: .any :: .any :: .any :: .any :: .any :: .any :: .any :: .any :: .any :: .any :: .any :: .any :: .any :: .any :: .any :: .any :: .any :: .any :: .any :: .any :: .any :: .any :: .any :: .any :: .any :: .any :: .any :: .any :: .any :: .any :: .any :: .any :: .any :: .any :: .any :: .any :: .any :: .any :: .any :: .any :: .any :: .any :: .any :: .any :: .any :: .any :: .any :: .any :: .any :: []))
      [[.d (I f0), .d (U h0), .d (U a0), .d (I f1), .d (U h1), .d (U a1), .d (I f2), .d (U h2), .d (U a2), .d (I f3), .d (U h3), .d (U a3), .d (I p0), .d (I p1), .d (I l0), .d (I l1), .d (I r0), .d (I r1)], [.d (I 0), .d (I 0), .nil]] [g] gn 0) ?_ t.size _
    ⟨0, _, _, _, Nat.zero_add _, ?_, rfl, rfl, rfl, rfl, rfl, rfl⟩
  case refine_2 => simp only [List.take_zero, byT, List.map_nil, List.append_nil]; exact hNr.symm
  rintro m st ⟨i, g, gn, rows, hi, hrows, hat⟩ ih
  refine RL_at hat rfl rfl (vf103L1_go ?_)
  clear hat
  have hsz : t.data.toList.length = t.size := Array.length_toList
  have hrl : rows.length ≤ 200000 := by rw [hrows, List.length_map, List.length_append, hNl, byT, List.length_map, List.length_take]; omega
  cases m with
  | zero =>
    have h1 : ¬ i < t.size := by omega
    rw [List.take_of_length_le (by omega)] at hrows
    have h40 := e40 11 (N ++ byT t.data.toList) (by rw [List.length_append, hNl, byT, List.length_map]; omega)
    rw [← hrows] at h40
    simp only [pT, Tm.ag, Tm.op_mk, Tm.val_mk, Tm.args_mk] at h40 ⊢
    generalize N ++ byT t.data.toList = A at *
    (repeat (first
    | refine RX_seq ?_
    | refine RX_block ?_
    | ((first | refine RX_reg ?_ | refine RX_cond' ?_ | refine RX_draw0 ?_ | refine RX_draw rfl ?_ | refine RX_skip ?_ | refine RX_gfrz ?_ | refine RX_exit ?_ | refine RX_ret ?_); try (simp only [go_sem, Nat.max_zero, List.isEmpty_cons, Int.reduceToNat, Nat.reducePow, Int.reduceEq, Int.reduceNe, Int.reduceLT, Int.reduceLE, Nat.reduceAdd, Nat.reduceLeDiff, ↓reduceIte, Nat.reduceLT, Nat.reduceMul, Nat.reduceSub, reduceCtorEq, frzLoc, rowCells, vAppM, beq_iff_eq, bne_iff_ne, bne_self_eq_false, beq_self_eq_true, beq_true, beq_false, I, B, w, vf103_res, vf103_keep, h1, h40, V.str]))))
  | succ m =>
    have h1 : i < t.size := by omega
    have hb : t[i]? = some t[i] := getElem?_pos t i h1
    have hb2 : t.data.toList[i]? = some t[i] := by rw [Array.getElem?_toList]; exact Array.getElem?_eq_getElem h1
    generalize t[i] = b at *
    have wb : IntKind.i64.wrap (b.toNat : Int) = (b.toNat : Int) := w_in (by omega) (by have := b.toNat_lt; omega)
    have hwi := w_nat (i := i) (by omega)
    have hr1 : rows.length + 1 ≤ 4294967296 := by omega
    (repeat (first
    | refine RX_seq ?_
    | refine RX_block ?_
    | ((first | refine RX_reg ?_ | refine RX_cond' ?_ | refine RX_draw0 ?_ | refine RX_draw rfl ?_ | refine RX_skip ?_ | refine RX_gfrz ?_ | refine RX_exit ?_ | refine RX_ret ?_); try (simp only [go_sem, Nat.max_zero, List.isEmpty_cons, Int.reduceToNat, Nat.reducePow, Int.reduceEq, Int.reduceNe, Int.reduceLT, Int.reduceLE, Nat.reduceAdd, Nat.reduceLeDiff, ↓reduceIte, Nat.reduceLT, Nat.reduceMul, Nat.reduceSub, reduceCtorEq, frzLoc, rowCells, vAppM, beq_iff_eq, bne_iff_ne, bne_self_eq_false, beq_self_eq_true, beq_true, beq_false, I, B, w, vf103_res, vf103_keep, h1, hb, wb, V.str, e75, hwi, hr1]))))
    refine ih m _ (Nat.lt_succ_self m) ⟨i + 1, _, _, _, by omega, ?_, rfl, rfl, rfl, rfl, rfl, rfl⟩
    rw [hrows, List.take_add_one, hb2]
    simp [byT, nT_row]
end Go.Proofs.YtknbgkfojmedpaaGreat
namespace Go.Proofs.YtknbgkfojmedpaaGreat
open Go.VM
theorem e40r (n : Int) (rows : List (List D)) (h : rows.length ≤ 1000000) (hr : rows.all (fun r => r.length == 3) = true) : CV VP 64 [.d (I n), .d (.sl rows)] [] = some ⟨.agg [.d (I 3), .d (I 0), .d (.sl ([I 1, I n, .sl []] :: rows))], [], [], 0⟩ := by
  have h33 := e33 (rows := [I 1, I n, .sl []] :: rows) ⟨by simp only [List.length_cons]; omega, by simp [hr]⟩
  have hl : rows.length ≤ 4294967296 := by omega
  have hl2 : rows.length + 1 ≤ 4294967296 := by omega
  refine CV_run (vf := vf64) rfl rfl ?_
  rw [vf64_start]
  (repeat (first
    | refine RX_seq ?_
    | refine RX_block ?_
    | ((first | refine RX_reg ?_ | refine RX_cond' ?_ | refine RX_draw0 ?_ | refine RX_draw rfl ?_ | refine RX_skip ?_ | refine RX_gfrz ?_ | refine RX_exit ?_ | refine RX_ret ?_); try (simp only [go_sem, Nat.max_zero, List.isEmpty_cons, Int.reduceToNat, Nat.reducePow, Int.reduceEq, Int.reduceNe, Int.reduceLT, Int.reduceLE, Nat.reduceAdd, Nat.reduceLeDiff, ↓reduceIte, Nat.reduceLT, Nat.reduceMul, Nat.reduceSub, reduceCtorEq, frzLoc, rowCells, vAppM, beq_iff_eq, bne_iff_ne, bne_self_eq_false, beq_self_eq_true, beq_true, beq_false, I, B, w, vf64_res, vf64_keep, e75, h33, hr, hl, hl2, Nat.add_comm 1]))))
theorem e85r (n : Int) (rows : List (List D)) (h : rows.length ≤ 1000000) (hr : rows.all (fun r => r.length == 3) = true) : CV VP 19 [.d (I n), .d (.sl rows)] [] = some ⟨.agg [.d (I 3), .d (I 0), .d (.sl ([I 1, I n, .sl []] :: rows))], [], [], 0⟩ := by
  have h40 := e40r n rows h hr
  refine CV_run (vf := vf19) rfl rfl ?_
  rw [vf19_start]
  (repeat (first
    | refine RX_seq ?_
    | refine RX_block ?_
    | ((first | refine RX_reg ?_ | refine RX_cond' ?_ | refine RX_draw0 ?_ | refine RX_draw rfl ?_ | refine RX_skip ?_ | refine RX_gfrz ?_ | refine RX_exit ?_ | refine RX_ret ?_); try (simp only [go_sem, Nat.max_zero, List.isEmpty_cons, Int.reduceToNat, Nat.reducePow, Int.reduceEq, Int.reduceNe, Int.reduceLT, Int.reduceLE, Nat.reduceAdd, Nat.reduceLeDiff, ↓reduceIte, Nat.reduceLT, Nat.reduceMul, Nat.reduceSub, reduceCtorEq, frzLoc, rowCells, vAppM, beq_iff_eq, bne_iff_ne, bne_self_eq_false, beq_self_eq_true, beq_true, beq_false, I, B, w, vf19_res, vf19_keep, h40]))))
theorem e85n (n : Int) : CV VP 19 [.d (I n), .d (.sl [])] [] = some ⟨.agg [.d (I 3), .d (I 0), .d (.sl [[I 1, I n, .sl []]])], [], [], 0⟩ := e85r n [] (by decide) rfl
def drC {α : Type} (f : Nat → List α × Nat) : Nat → Nat → List α × Nat
  | 0, k => ([], k)
  | n + 1, k => ((f k).1 ++ (drC f n (f k).2).1, (drC f n (f k).2).2)
def bxPt (b : Bx) (t : ByteArray) : Tm := pT 11 (bqN b.f b.h b.a0 b.f b.h b.b0 b.f b.h b.a1 b.f b.h b.b1 b.p0 b.p1 b.l0 b.l1 b.r0 b.r1 ++ byT t.data.toList)
def exx : ByteArray := ⟨#[120]⟩
def paNm (x : Int) : ByteArray := if x = 2 then silver else if x = 3 then exx else gold
def paF (l : List Int) (s : Int) (b : Bx) (k : Nat) : List Tm × Nat :=
  let x := nxV l k 14
  let k1 := nxA l k
  let k2 := nxA l k1
  if x = 0 ∨ x = 1 ∨ x = 2 then ([pT 10 [nT (5000 + nxV l k1 4)], bxPt b (paNm (nxV l k2 4))], nxA l k2)
  else if x = 3 ∨ x = 4 ∨ x = 5 then ([pT 3 [gNm (1 - s) (900 + nxV l k1 20)]], k2)
  else if x = 6 ∨ x = 7 then ([pT 13 [nT 1]], k1)
  else if x = 8 then ([pT 2 [nT 31, .mk 4 0 [gNm (1 - s) 930]], pT 10 [nT 6000]], k1)
  else if x = 9 then ([pT 14 [nT 1, nT (nxV l k1 9)]], k2)
  else if x = 10 then ([pT (if nxV l k1 2 = 0 then 15 else 16) []], k2)
  else if x = 11 then ([pT 17 [nmT l k1]], nmA l k1)
  else if x = 12 then ([pT 12 [nT (if nxV l k1 3 = 0 then 43 else if nxV l k1 3 = 1 then 44 else 7)]], k2)
  else ([pT (1 + nxV l k1 18) (drS l 2 1 k2).1], (drS l 2 1 k2).2)
theorem gNm_row (a b : Int) : (gNm a b).row = [I 2, I (w (w (a * 1048576) + b)), .sl []] := by simp [gNm, Tm.row_mk]
theorem nmT_row (l : List Int) (k : Nat) : (nmT l k).row = [I 2, I (nmV l k), .sl []] := by simp [nmT, Tm.row_mk]
theorem pT_row (n : Int) (ts : List Tm) : (pT n ts).row = [I 3, I 0, .sl ([I 1, I n, .sl []] :: ts.map Tm.row)] := by simp [pT, Tm.row_mk, nT_row]
end Go.Proofs.YtknbgkfojmedpaaGreat
namespace Go.Proofs.YtknbgkfojmedpaaGreat
open Go.VM
def Tm.zero : Tm := .mk 0 0 []
def Tm.unseal (key t : Tm) : Option Tm := match t with
  | .mk o _ [a, b] => if o = 7 ∧ a.eqb key = true then some b else none
  | _ => none
def unsV : Option Tm → V
  | some b => .tup [b.ag, .d (B true)]
  | none => .tup [Tm.zero.ag, .d (B false)]
theorem unseal_len {key : Tm} {o v : Int} {l : List Tm} (h : l.length ≠ 2) : Tm.unseal key (.mk o v l) = none := by
  unfold Tm.unseal
  split
  · rename_i h1; cases h1; exact absurd rfl h
  · rfl
theorem list2 {α : Type} : ∀ (l : List α), l.length = 2 → ∃ x0 x1, l = [x0, x1]
  | [x0, x1], _ => ⟨x0, x1, rfl⟩
set_option maxHeartbeats 4000000 in
theorem e98 (key t : Tm) (hs : ∀ u ∈ t.args, u.small) : CV VP 163 [key.ag, t.ag] [] = some ⟨unsV (Tm.unseal key t), [], [], 0⟩ := by
  obtain ⟨o, v, l⟩ := t
  by_cases hl : l.length = 2
  case neg =>
    rw [unseal_len hl]
    simp only [unsV, Tm.zero, Tm.ag, Tm.op_mk, Tm.val_mk, Tm.args_mk, List.map_nil]
    have hl2 : ¬ (l.length : Int) = 2 := by omega
    refine CV_run (vf := vf163) rfl rfl ?_
    rw [vf163_start]
    (repeat' (first
    | refine RX_seq ?_
    | refine RX_block ?_
    | ((first | refine RX_reg ?_ | refine RX_cond' ?_ | refine RX_draw0 ?_ | refine RX_draw rfl ?_ | refine RX_skip ?_ | refine RX_gfrz ?_ | refine RX_exit ?_ | refine RX_ret ?_); try (simp only [go_sem, Nat.max_zero, List.isEmpty_cons, Int.reduceToNat, Nat.reducePow, Int.reduceEq, Int.reduceNe, Int.reduceLT, Int.reduceLE, Nat.reduceAdd, Nat.reduceLeDiff, ↓reduceIte, Nat.reduceLT, Nat.reduceMul, Nat.reduceSub, reduceCtorEq, frzLoc, rowCells, vAppM, bne_self_eq_false, beq_self_eq_true, beq_true, beq_false, I, B, w, ibeq, ibne, bbeq, decide_eq_false_iff_not, decide_not, Bool.not_not, Decidable.not_not, Bool.not_eq_eq_eq_not, gt_iff_lt, ge_iff_le, and_false, false_and, or_self, and_self, vf163_res, vf163_keep, List.length_map, *]))
    | (refine ite_ngo (fun _ => ?_) (fun _ => ?_) <;> try (simp only [go_sem, Nat.max_zero, List.isEmpty_cons, Int.reduceToNat, Nat.reducePow, Int.reduceEq, Int.reduceNe, Int.reduceLT, Int.reduceLE, Nat.reduceAdd, Nat.reduceLeDiff, ↓reduceIte, Nat.reduceLT, Nat.reduceMul, Nat.reduceSub, reduceCtorEq, frzLoc, rowCells, vAppM, bne_self_eq_false, beq_self_eq_true, beq_true, beq_false, I, B, w, ibeq, ibne, bbeq, decide_eq_false_iff_not, decide_not, Bool.not_not, Decidable.not_not, Bool.not_eq_eq_eq_not, gt_iff_lt, ge_iff_le, and_false, false_and, or_self, and_self, vf163_res, vf163_keep, List.length_map, *]))
    | (refine ite_go (fun _ => ?_) (fun _ => ?_) <;> try (simp only [go_sem, Nat.max_zero, List.isEmpty_cons, Int.reduceToNat, Nat.reducePow, Int.reduceEq, Int.reduceNe, Int.reduceLT, Int.reduceLE, Nat.reduceAdd, Nat.reduceLeDiff, ↓reduceIte, Nat.reduceLT, Nat.reduceMul, Nat.reduceSub, reduceCtorEq, frzLoc, rowCells, vAppM, bne_self_eq_false, beq_self_eq_true, beq_true, beq_false, I, B, w, ibeq, ibne, bbeq, decide_eq_false_iff_not, decide_not, Bool.not_not, Decidable.not_not, Bool.not_eq_eq_eq_not, gt_iff_lt, ge_iff_le, and_false, false_and, or_self, and_self, vf163_res, vf163_keep, List.length_map, *]))))
  obtain ⟨a, b, rfl⟩ := list2 l hl
  have h99 := e99 a key (hs a (by simp [Tm.args]))
  clear hl hs
  simp only [Tm.unseal, unsV, Tm.zero, Tm.ag, Tm.op_mk, Tm.val_mk, Tm.args_mk, List.map_nil, List.map_cons, Tm.row_eq] at h99 ⊢
  cases he : a.eqb key with
  | true =>
    rw [he] at h99
    refine CV_run (vf := vf163) rfl rfl ?_
    rw [vf163_start]
    (repeat' (first
    | refine RX_seq ?_
    | refine RX_block ?_
    | ((first | refine RX_reg ?_ | refine RX_cond' ?_ | refine RX_draw0 ?_ | refine RX_draw rfl ?_ | refine RX_skip ?_ | refine RX_gfrz ?_ | refine RX_exit ?_ | refine RX_ret ?_); try (simp only [go_sem, Nat.max_zero, List.isEmpty_cons, Int.reduceToNat, Nat.reducePow, Int.reduceEq, Int.reduceNe, Int.reduceLT, Int.reduceLE, Nat.reduceAdd, Nat.reduceLeDiff, ↓reduceIte, Nat.reduceLT, Nat.reduceMul, Nat.reduceSub, reduceCtorEq, frzLoc, rowCells, vAppM, bne_self_eq_false, beq_self_eq_true, beq_true, beq_false, I, B, w, ibeq, ibne, bbeq, decide_eq_false_iff_not, decide_not, Bool.not_not, Decidable.not_not, Bool.not_eq_eq_eq_not, gt_iff_lt, ge_iff_le, and_false, false_and, or_self, and_self, vf163_res, vf163_keep, unsV, Tm.zero, Tm.ag, Tm.op_mk, Tm.val_mk, Tm.args_mk, List.map_nil, *]))
    | (refine ite_ngo (fun _ => ?_) (fun _ => ?_) <;> try (simp only [go_sem, Nat.max_zero, List.isEmpty_cons, Int.reduceToNat, Nat.reducePow, Int.reduceEq, Int.reduceNe, Int.reduceLT, Int.reduceLE, Nat.reduceAdd, Nat.reduceLeDiff, ↓reduceIte, Nat.reduceLT, Nat.reduceMul, Nat.reduceSub, reduceCtorEq, frzLoc, rowCells, vAppM, bne_self_eq_false, beq_self_eq_true, beq_true, beq_false, I, B, w, ibeq, ibne, bbeq, decide_eq_false_iff_not, decide_not, Bool.not_not, Decidable.not_not, Bool.not_eq_eq_eq_not, gt_iff_lt, ge_iff_le, and_false, false_and, or_self, and_self, vf163_res, vf163_keep, unsV, Tm.zero, Tm.ag, Tm.op_mk, Tm.val_mk, Tm.args_mk, List.map_nil, *]))
    | (refine ite_go (fun _ => ?_) (fun _ => ?_) <;> try (simp only [go_sem, Nat.max_zero, List.isEmpty_cons, Int.reduceToNat, Nat.reducePow, Int.reduceEq, Int.reduceNe, Int.reduceLT, Int.reduceLE, Nat.reduceAdd, Nat.reduceLeDiff, ↓reduceIte, Nat.reduceLT, Nat.reduceMul, Nat.reduceSub, reduceCtorEq, frzLoc, rowCells, vAppM, bne_self_eq_false, beq_self_eq_true, beq_true, beq_false, I, B, w, ibeq, ibne, bbeq, decide_eq_false_iff_not, decide_not, Bool.not_not, Decidable.not_not, Bool.not_eq_eq_eq_not, gt_iff_lt, ge_iff_le, and_false, false_and, or_self, and_self, vf163_res, vf163_keep, unsV, Tm.zero, Tm.ag, Tm.op_mk, Tm.val_mk, Tm.args_mk, List.map_nil, *]))))
  | false =>
    rw [he] at h99
    refine CV_run (vf := vf163) rfl rfl ?_
    rw [vf163_start]
    (repeat' (first
    | refine RX_seq ?_
    | refine RX_block ?_
    | ((first | refine RX_reg ?_ | refine RX_cond' ?_ | refine RX_draw0 ?_ | refine RX_draw rfl ?_ | refine RX_skip ?_ | refine RX_gfrz ?_ | refine RX_exit ?_ | refine RX_ret ?_); try (simp only [go_sem, Nat.max_zero, List.isEmpty_cons, Int.reduceToNat, Nat.reducePow, Int.reduceEq, Int.reduceNe, Int.reduceLT, Int.reduceLE, Nat.reduceAdd, Nat.reduceLeDiff, ↓reduceIte, Nat.reduceLT, Nat.reduceMul, Nat.reduceSub, reduceCtorEq, frzLoc, rowCells, vAppM, bne_self_eq_false, beq_self_eq_true, beq_true, beq_false, I, B, w, ibeq, ibne, bbeq, decide_eq_false_iff_not, decide_not, Bool.not_not, Decidable.not_not, Bool.not_eq_eq_eq_not, gt_iff_lt, ge_iff_le, and_false, false_and, or_self, and_self, vf163_res, vf163_keep, unsV, Tm.zero, Tm.ag, Tm.op_mk, Tm.val_mk, Tm.args_mk, List.map_nil, *]))
    | (refine ite_ngo (fun _ => ?_) (fun _ => ?_) <;> try (simp only [go_sem, Nat.max_zero, List.isEmpty_cons, Int.reduceToNat, Nat.reducePow, Int.reduceEq, Int.reduceNe, Int.reduceLT, Int.reduceLE, Nat.reduceAdd, Nat.reduceLeDiff, ↓reduceIte, Nat.reduceLT, Nat.reduceMul, Nat.reduceSub, reduceCtorEq, frzLoc, rowCells, vAppM, bne_self_eq_false, beq_self_eq_true, beq_true, beq_false, I, B, w, ibeq, ibne, bbeq, decide_eq_false_iff_not, decide_not, Bool.not_not, Decidable.not_not, Bool.not_eq_eq_eq_not, gt_iff_lt, ge_iff_le, and_false, false_and, or_self, and_self, vf163_res, vf163_keep, unsV, Tm.zero, Tm.ag, Tm.op_mk, Tm.val_mk, Tm.args_mk, List.map_nil, *]))
    | (refine ite_go (fun _ => ?_) (fun _ => ?_) <;> try (simp only [go_sem, Nat.max_zero, List.isEmpty_cons, Int.reduceToNat, Nat.reducePow, Int.reduceEq, Int.reduceNe, Int.reduceLT, Int.reduceLE, Nat.reduceAdd, Nat.reduceLeDiff, ↓reduceIte, Nat.reduceLT, Nat.reduceMul, Nat.reduceSub, reduceCtorEq, frzLoc, rowCells, vAppM, bne_self_eq_false, beq_self_eq_true, beq_true, beq_false, I, B, w, ibeq, ibne, bbeq, decide_eq_false_iff_not, decide_not, Bool.not_not, Decidable.not_not, Bool.not_eq_eq_eq_not, gt_iff_lt, ge_iff_le, and_false, false_and, or_self, and_self, vf163_res, vf163_keep, unsV, Tm.zero, Tm.ag, Tm.op_mk, Tm.val_mk, Tm.args_mk, List.map_nil, *]))))
theorem e100 (key t : Tm) (hs : ∀ u ∈ t.args, u.small) : CV VP 41 [key.ag, t.ag] [] = some ⟨unsV (Tm.unseal key t), [], [], 0⟩ := by
  obtain ⟨o, v, l⟩ := t
  by_cases hl : l.length = 2
  case neg =>
    rw [unseal_len hl]
    simp only [unsV, Tm.zero, Tm.ag, Tm.op_mk, Tm.val_mk, Tm.args_mk, List.map_nil]
    have hl2 : ¬ (l.length : Int) = 2 := by omega
    refine CV_run (vf := vf41) rfl rfl ?_
    rw [vf41_start]
    (repeat' (first
    | refine RX_seq ?_
    | refine RX_block ?_
    | ((first | refine RX_reg ?_ | refine RX_cond' ?_ | refine RX_draw0 ?_ | refine RX_draw rfl ?_ | refine RX_skip ?_ | refine RX_gfrz ?_ | refine RX_exit ?_ | refine RX_ret ?_); try (simp only [go_sem, Nat.max_zero, List.isEmpty_cons, Int.reduceToNat, Nat.reducePow, Int.reduceEq, Int.reduceNe, Int.reduceLT, Int.reduceLE, Nat.reduceAdd, Nat.reduceLeDiff, ↓reduceIte, Nat.reduceLT, Nat.reduceMul, Nat.reduceSub, reduceCtorEq, frzLoc, rowCells, vAppM, bne_self_eq_false, beq_self_eq_true, beq_true, beq_false, I, B, w, ibeq, ibne, bbeq, decide_eq_false_iff_not, decide_not, Bool.not_not, Decidable.not_not, Bool.not_eq_eq_eq_not, gt_iff_lt, ge_iff_le, and_false, false_and, or_self, and_self, vf41_res, vf41_keep, List.length_map, *]))
    | (refine ite_ngo (fun _ => ?_) (fun _ => ?_) <;> try (simp only [go_sem, Nat.max_zero, List.isEmpty_cons, Int.reduceToNat, Nat.reducePow, Int.reduceEq, Int.reduceNe, Int.reduceLT, Int.reduceLE, Nat.reduceAdd, Nat.reduceLeDiff, ↓reduceIte, Nat.reduceLT, Nat.reduceMul, Nat.reduceSub, reduceCtorEq, frzLoc, rowCells, vAppM, bne_self_eq_false, beq_self_eq_true, beq_true, beq_false, I, B, w, ibeq, ibne, bbeq, decide_eq_false_iff_not, decide_not, Bool.not_not, Decidable.not_not, Bool.not_eq_eq_eq_not, gt_iff_lt, ge_iff_le, and_false, false_and, or_self, and_self, vf41_res, vf41_keep, List.length_map, *]))
    | (refine ite_go (fun _ => ?_) (fun _ => ?_) <;> try (simp only [go_sem, Nat.max_zero, List.isEmpty_cons, Int.reduceToNat, Nat.reducePow, Int.reduceEq, Int.reduceNe, Int.reduceLT, Int.reduceLE, Nat.reduceAdd, Nat.reduceLeDiff, ↓reduceIte, Nat.reduceLT, Nat.reduceMul, Nat.reduceSub, reduceCtorEq, frzLoc, rowCells, vAppM, bne_self_eq_false, beq_self_eq_true, beq_true, beq_false, I, B, w, ibeq, ibne, bbeq, decide_eq_false_iff_not, decide_not, Bool.not_not, Decidable.not_not, Bool.not_eq_eq_eq_not, gt_iff_lt, ge_iff_le, and_false, false_and, or_self, and_self, vf41_res, vf41_keep, List.length_map, *]))))
  obtain ⟨a, b, rfl⟩ := list2 l hl
  have h19 := e19 _ a key (Nat.lt_succ_self _) (hs a (by simp [Tm.args]))
  clear hl hs
  simp only [Tm.unseal, unsV, Tm.zero, Tm.ag, Tm.op_mk, Tm.val_mk, Tm.args_mk, List.map_nil, List.map_cons, Tm.row_eq] at h19 ⊢
  cases he : a.eqb key with
  | true =>
    rw [he] at h19
    refine CV_run (vf := vf41) rfl rfl ?_
    rw [vf41_start]
    (repeat' (first
    | refine RX_seq ?_
    | refine RX_block ?_
    | ((first | refine RX_reg ?_ | refine RX_cond' ?_ | refine RX_draw0 ?_ | refine RX_draw rfl ?_ | refine RX_skip ?_ | refine RX_gfrz ?_ | refine RX_exit ?_ | refine RX_ret ?_); try (simp only [go_sem, Nat.max_zero, List.isEmpty_cons, Int.reduceToNat, Nat.reducePow, Int.reduceEq, Int.reduceNe, Int.reduceLT, Int.reduceLE, Nat.reduceAdd, Nat.reduceLeDiff, ↓reduceIte, Nat.reduceLT, Nat.reduceMul, Nat.reduceSub, reduceCtorEq, frzLoc, rowCells, vAppM, bne_self_eq_false, beq_self_eq_true, beq_true, beq_false, I, B, w, ibeq, ibne, bbeq, decide_eq_false_iff_not, decide_not, Bool.not_not, Decidable.not_not, Bool.not_eq_eq_eq_not, gt_iff_lt, ge_iff_le, and_false, false_and, or_self, and_self, vf41_res, vf41_keep, unsV, Tm.zero, Tm.ag, Tm.op_mk, Tm.val_mk, Tm.args_mk, List.map_nil, *]))
    | (refine ite_ngo (fun _ => ?_) (fun _ => ?_) <;> try (simp only [go_sem, Nat.max_zero, List.isEmpty_cons, Int.reduceToNat, Nat.reducePow, Int.reduceEq, Int.reduceNe, Int.reduceLT, Int.reduceLE, Nat.reduceAdd, Nat.reduceLeDiff, ↓reduceIte, Nat.reduceLT, Nat.reduceMul, Nat.reduceSub, reduceCtorEq, frzLoc, rowCells, vAppM, bne_self_eq_false, beq_self_eq_true, beq_true, beq_false, I, B, w, ibeq, ibne, bbeq, decide_eq_false_iff_not, decide_not, Bool.not_not, Decidable.not_not, Bool.not_eq_eq_eq_not, gt_iff_lt, ge_iff_le, and_false, false_and, or_self, and_self, vf41_res, vf41_keep, unsV, Tm.zero, Tm.ag, Tm.op_mk, Tm.val_mk, Tm.args_mk, List.map_nil, *]))
    | (refine ite_go (fun _ => ?_) (fun _ => ?_) <;> try (simp only [go_sem, Nat.max_zero, List.isEmpty_cons, Int.reduceToNat, Nat.reducePow, Int.reduceEq, Int.reduceNe, Int.reduceLT, Int.reduceLE, Nat.reduceAdd, Nat.reduceLeDiff, ↓reduceIte, Nat.reduceLT, Nat.reduceMul, Nat.reduceSub, reduceCtorEq, frzLoc, rowCells, vAppM, bne_self_eq_false, beq_self_eq_true, beq_true, beq_false, I, B, w, ibeq, ibne, bbeq, decide_eq_false_iff_not, decide_not, Bool.not_not, Decidable.not_not, Bool.not_eq_eq_eq_not, gt_iff_lt, ge_iff_le, and_false, false_and, or_self, and_self, vf41_res, vf41_keep, unsV, Tm.zero, Tm.ag, Tm.op_mk, Tm.val_mk, Tm.args_mk, List.map_nil, *]))))
  | false =>
    rw [he] at h19
    refine CV_run (vf := vf41) rfl rfl ?_
    rw [vf41_start]
    (repeat' (first
    | refine RX_seq ?_
    | refine RX_block ?_
    | ((first | refine RX_reg ?_ | refine RX_cond' ?_ | refine RX_draw0 ?_ | refine RX_draw rfl ?_ | refine RX_skip ?_ | refine RX_gfrz ?_ | refine RX_exit ?_ | refine RX_ret ?_); try (simp only [go_sem, Nat.max_zero, List.isEmpty_cons, Int.reduceToNat, Nat.reducePow, Int.reduceEq, Int.reduceNe, Int.reduceLT, Int.reduceLE, Nat.reduceAdd, Nat.reduceLeDiff, ↓reduceIte, Nat.reduceLT, Nat.reduceMul, Nat.reduceSub, reduceCtorEq, frzLoc, rowCells, vAppM, bne_self_eq_false, beq_self_eq_true, beq_true, beq_false, I, B, w, ibeq, ibne, bbeq, decide_eq_false_iff_not, decide_not, Bool.not_not, Decidable.not_not, Bool.not_eq_eq_eq_not, gt_iff_lt, ge_iff_le, and_false, false_and, or_self, and_self, vf41_res, vf41_keep, unsV, Tm.zero, Tm.ag, Tm.op_mk, Tm.val_mk, Tm.args_mk, List.map_nil, *]))
    | (refine ite_ngo (fun _ => ?_) (fun _ => ?_) <;> try (simp only [go_sem, Nat.max_zero, List.isEmpty_cons, Int.reduceToNat, Nat.reducePow, Int.reduceEq, Int.reduceNe, Int.reduceLT, Int.reduceLE, Nat.reduceAdd, Nat.reduceLeDiff, ↓reduceIte, Nat.reduceLT, Nat.reduceMul, Nat.reduceSub, reduceCtorEq, frzLoc, rowCells, vAppM, bne_self_eq_false, beq_self_eq_true, beq_true, beq_false, I, B, w, ibeq, ibne, bbeq, decide_eq_false_iff_not, decide_not, Bool.not_not, Decidable.not_not, Bool.not_eq_eq_eq_not, gt_iff_lt, ge_iff_le, and_false, false_and, or_self, and_self, vf41_res, vf41_keep, unsV, Tm.zero, Tm.ag, Tm.op_mk, Tm.val_mk, Tm.args_mk, List.map_nil, *]))
    | (refine ite_go (fun _ => ?_) (fun _ => ?_) <;> try (simp only [go_sem, Nat.max_zero, List.isEmpty_cons, Int.reduceToNat, Nat.reducePow, Int.reduceEq, Int.reduceNe, Int.reduceLT, Int.reduceLE, Nat.reduceAdd, Nat.reduceLeDiff, ↓reduceIte, Nat.reduceLT, Nat.reduceMul, Nat.reduceSub, reduceCtorEq, frzLoc, rowCells, vAppM, bne_self_eq_false, beq_self_eq_true, beq_true, beq_false, I, B, w, ibeq, ibne, bbeq, decide_eq_false_iff_not, decide_not, Bool.not_not, Decidable.not_not, Bool.not_eq_eq_eq_not, gt_iff_lt, ge_iff_le, and_false, false_and, or_self, and_self, vf41_res, vf41_keep, unsV, Tm.zero, Tm.ag, Tm.op_mk, Tm.val_mk, Tm.args_mk, List.map_nil, *]))))
end Go.Proofs.YtknbgkfojmedpaaGreat
namespace Go.Proofs.YtknbgkfojmedpaaGreat
open Go.VM
def Tm.partB : Tm → Bool
  | .mk o _ (a :: _) => decide (o = 3) && decide (a.op = 1)
  | .mk _ _ [] => false
mutual
def Tm.tame : Tm → Prop
  | .mk _ _ args => args.length < 1000000 ∧ Tm.tames args
def Tm.tames : List Tm → Prop
  | [] => True
  | t :: ts => t.tame ∧ Tm.tames ts
end
mutual
theorem Tm.tame.small : ∀ {t : Tm}, t.tame → t.small
  | .mk _ _ args, h => ⟨by have := h.1; omega, Tm.tames.smalls h.2⟩
theorem Tm.tames.smalls : ∀ {ts : List Tm}, Tm.tames ts → Tm.smalls ts
  | [], _ => trivial
  | _ :: _, h => ⟨h.1.small, Tm.tames.smalls h.2⟩
end
theorem Tm.tames_mem : ∀ {ts : List Tm} {t : Tm}, Tm.tames ts → t ∈ ts → t.tame
  | t :: ts, u, h, hu => by
    rcases List.mem_cons.1 hu with rfl | hu
    · exact h.1
    · exact Tm.tames_mem h.2 hu
theorem Tm.tame.len {t : Tm} (h : t.tame) : t.args.length < 1000000 := by obtain ⟨o, v, l⟩ := t; exact h.1
theorem Tm.tame.mem {t u : Tm} (h : t.tame) (hu : u ∈ t.args) : u.tame := by obtain ⟨o, v, l⟩ := t; exact Tm.tames_mem h.2 hu
end Go.Proofs.YtknbgkfojmedpaaGreat
namespace Go.Proofs.YtknbgkfojmedpaaGreat
open Go.VM
theorem tames_of : ∀ {ts : List Tm}, (∀ t ∈ ts, t.tame) → Tm.tames ts
  | [], _ => trivial
  | t :: _, h => ⟨h t List.mem_cons_self, tames_of fun u hu => h u (List.mem_cons_of_mem _ hu)⟩
theorem tame_nT (n : Int) : (nT n).tame := ⟨by simp, trivial⟩
theorem tame_leaf (o v : Int) : (Tm.mk o v []).tame := ⟨by simp, trivial⟩
theorem tame_pT (n : Int) {ts : List Tm} (hl : ts.length < 100000) (h : ∀ t ∈ ts, t.tame) : (pT n ts).tame := ⟨by simp only [List.length_cons]; omega, tame_nT n, tames_of h⟩
theorem part_pT (n : Int) (ts : List Tm) : (pT n ts).partB = true := by simp [pT, Tm.partB, nT, Tm.op_mk]
theorem drL_tame {f : Nat → Tm × Nat} (hf : ∀ k, (f k).1.tame) : ∀ n k, Tm.tames (drL f n k).1
  | 0, _ => trivial
  | n + 1, k => ⟨hf k, drL_tame hf n _⟩
theorem drT_tame {l : List Int} (hB : Bytes l) : ∀ d k, (drT l d k).1.tame
  | 0, k => ⟨by simp, trivial⟩
  | d + 1, k => by
    have ih := drT_tame hB d
    rw [drT]
    split
    · exact ⟨by simp, trivial⟩
    split
    · refine ⟨?_, drL_tame ih _ _⟩
      rw [drL_len]
      have := nxV_range hB (k := nxA l k) (n := 4) (by decide)
      omega
    split
    · exact ⟨by simp, ⟨by simp, trivial⟩, trivial⟩
    split
    · exact ⟨by simp, ⟨by simp, trivial⟩, ⟨by simp, trivial⟩, trivial⟩
    split
    · exact ⟨by simp, ih _, trivial⟩
    split
    · exact ⟨by simp, ih _, ih _, trivial⟩
    · exact ⟨by simp, ih _, trivial⟩
theorem paNm_len (x : Int) : (paNm x).data.toList.length ≤ 6 := by
  unfold paNm
  split
  · decide
  · split <;> decide
def Good (ts : List Tm) : Prop := ∀ t ∈ ts, t.partB = true ∧ t.tame
theorem paF_good {l : List Int} (hB : Bytes l) (s : Int) (b : Bx) (k : Nat) : Good (paF l s b k).1 ∧ (paF l s b k).1.length ≤ 2 := by
  have one : ∀ n ts, ts.length < 100000 → (∀ t ∈ ts, Tm.tame t) → Good [pT n ts] := fun n ts h1 h2 t ht => by
    simp only [List.mem_cons, List.not_mem_nil, or_false] at ht; subst ht; exact ⟨part_pT n ts, tame_pT n h1 h2⟩
  have two : ∀ n ts m us, ts.length < 100000 → (∀ t ∈ ts, Tm.tame t) → us.length < 100000 → (∀ t ∈ us, Tm.tame t) → Good [pT n ts, pT m us] := fun n ts m us h1 h2 h3 h4 t ht => by
    simp only [List.mem_cons, List.not_mem_nil, or_false] at ht
    rcases ht with rfl | rfl
    · exact ⟨part_pT n ts, tame_pT n h1 h2⟩
    · exact ⟨part_pT m us, tame_pT m h3 h4⟩
  have nums : ∀ ns : List Int, ∀ t ∈ ns.map nT, Tm.tame t := fun ns t ht => by obtain ⟨n, _, rfl⟩ := List.mem_map.1 ht; exact tame_nT n
  have leaf : ∀ o v, ∀ t ∈ [Tm.mk o v []], Tm.tame t := fun o v t ht => by simp only [List.mem_cons, List.not_mem_nil, or_false] at ht; subst ht; exact tame_leaf o v
  unfold paF
  simp only
  split
  · refine ⟨two _ _ _ _ (by simp) (nums [_]) ?_ ?_, by simp⟩
    · have := paNm_len (nxV l (nxA l (nxA l k)) 4)
      simp only [List.length_append, bqN, byT, List.length_map, List.length_cons, List.length_nil]
      omega
    · intro t ht
      rcases List.mem_append.1 ht with ht | ht
      · exact nums [_, _, _, _, _, _, _, _, _, _, _, _, _, _, _, _, _, _] t ht
      · obtain ⟨c, _, rfl⟩ := List.mem_map.1 ht; exact tame_nT _
  split
  · exact ⟨one _ _ (by simp) (leaf _ _), by simp⟩
  split
  · exact ⟨one _ _ (by simp) (nums [_]), by simp⟩
  split
  · refine ⟨two _ _ _ _ (by simp) ?_ (by simp) (nums [_]), by simp⟩
    intro t ht
    simp only [List.mem_cons, List.not_mem_nil, or_false] at ht
    rcases ht with rfl | rfl
    · exact tame_nT _
    · exact ⟨by simp, tame_leaf _ _, trivial⟩
  split
  · exact ⟨one _ _ (by simp) (nums [_, _]), by simp⟩
  split
  · exact ⟨one _ _ (by simp) (by simp), by simp⟩
  split
  · exact ⟨one _ _ (by simp) (leaf _ _), by simp⟩
  split
  · exact ⟨one _ _ (by simp) (nums [_]), by simp⟩
  · refine ⟨one _ _ ?_ ?_, by simp⟩
    · have := nxV_range hB (k := nxA l (nxA l k)) (n := 2 + 1) (by decide)
      rw [drS, drL_len]; omega
    · intro t ht
      exact Tm.tames_mem (drL_tame (drT_tame hB 1) _ _) ht
theorem drC_good {l : List Int} (hB : Bytes l) (s : Int) (b : Bx) : ∀ n k, Good (drC (paF l s b) n k).1 ∧ (drC (paF l s b) n k).1.length ≤ 2 * n
  | 0, k => ⟨fun t ht => (by cases ht), by simp [drC]⟩
  | n + 1, k => by
    have h1 := paF_good hB s b k
    have h2 := drC_good hB s b n (paF l s b k).2
    rw [drC]
    refine ⟨fun t ht => ?_, by rw [List.length_append]; omega⟩
    rcases List.mem_append.1 ht with ht | ht
    · exact h1.1 t ht
    · exact h2.1 t ht
end Go.Proofs.YtknbgkfojmedpaaGreat
namespace Go.Proofs.YtknbgkfojmedpaaGreat
open Go.VM
set_option maxRecDepth 20000 in
set_option maxHeartbeats 8000000 in
theorem L37 {l : List Int} (hB : Bytes l) (s : Int) (hs : s = 0 ∨ s = 1) (gt : List V) (hgc : V.erL gt = gt) (hgl : ∀ n, V.ltbL n gt = true) (b : Bx) (id : Nat) {bl : List (List V)} (h : CtxOk bl id)
    {Q : VExit → St → Prop} (m : Nat) (k : Nat) (acc : List Tm) (v : V) (live : List Nat) (gn : Nat) (hm : m < 100) (ha : acc.length + 2 * m < 1000) (hv : Acc 3 v live (acc.map Tm.row)) (st : St)
    (hat : At vf27K0 (bl.length + 2) st ((.ptr id 0 :: .any :: .any :: .ptr bl.length 0 :: .any :: .d (I 1) :: .ptr (bl.length + 1) 0 :: v :: .d (I ((m : Int) - 1)) :: .any :: .any :: .any :: .any :: .any :: .any :: .any :: .any :: .any :: .any :: .any :: .any :: .any :: .any :: .any :: .any :: .any :: .any :: .any :: .any :: .any :: .any :: .any :: .any :: .any :: .any :: .any :: .any :: .any :: .any :: .any :: .any :: .any :: .any :: .any :: .any :: .any :: .any :: .any :: .any :: .any :: .any :: .any :: .any :: .any :: .any :: .any :: .any :: .any :: .any :: .any :: .any :: .any :: .any :: .any :: .any :: .any :: .any :: .any :: .any :: .any :: .any :: .any :: .any :: .any :: .any :: .any :: .any :: .any :: .any :: .any :: .any :: .any :: .any :: .any :: .any :: .any :: .any :: .any :: .any :: .any :: .any :: .any :: .any :: .any :: .any :: .any :: .any :: .any :: .any :: .any :: .any :: .any :: .any :: .any :: .any :: .any :: .any :: .any :: .any :: .any :: .any :: .any :: .any :: .any :: .any :: .any :: .any :: .any :: .any :: .any :: .any :: .any :: .any :: .any :: .any :: .any :: .any :: .any :: .any :: .any :: .any :: .any :: .any :: .any :: .any :: .any :: .any :: .any :: .any :: .any :: .any :: .any :: .any :: .any :: .any :: .any :: .any :: .any :: .any :: .any :: .any :: .any :: .any :: .any :: .any :: .any :: .any :: .any :: .any :: .any :: .any :: .any :: .any :: .any :: .any :: .any :: .any :: .any :: .any :: .any :: .any :: .any :: .any :: .any :: [])) (cx bl id l (k : Nat) [.d (I s) :: gt, b.row.map .d]) live gn bl.length)
    (hQ : ∀ v live gn st, Acc 3 v live ((acc ++ (drC (paF l s b) m k).1).map Tm.row) → At vf27K0 (bl.length + 2) st ((.ptr id 0 :: .any :: .any :: .ptr bl.length 0 :: .any :: .d (I 1) :: .ptr (bl.length + 1) 0 :: v :: .d (I (-1)) :: .any :: .any :: .any :: .any :: .any :: .any :: .any :: .any :: .any :: .any :: .any :: .any :: .any :: .any :: .any :: .any :: .any :: .any :: .any :: .any :: .any :: .any :: .any :: .any :: .any :: .any :: .any :: .any :: .any :: .any :: .any :: .any :: .any :: .any :: .any :: .any :: .any :: .any :: .any :: .any :: .any :: .any :: .any :: .any :: .any :: .any :: .any :: .any :: .any :: .any :: .any :: .any :: .any :: .any :: .any :: .any :: .any :: .any :: .any :: .any :: .any :: .any :: .any :: .any :: .any :: .any :: .any :: .any :: .any :: .any :: .any :: .any :: .any :: .any :: .any :: .any :: .any :: .any :: .any :: .any :: .any :: .any :: .any :: .any :: .any :: .any :: .any :: .any :: .any :: .any :: .any :: .any :: .any :: .any :: .any :: .any :: .any :: .any :: .any :: .any :: .any :: .any :: .any :: .any :: .any :: .any :: .any :: .any :: .any :: .any :: .any :: .any :: .any :: .any :: .any :: .any :: .any :: .any :: .any :: .any :: .any :: .any :: .any :: .any :: .any :: .any :: .any :: .any :: .any :: .any :: .any :: .any :: .any :: .any :: .any :: .any :: .any :: .any :: .any :: .any :: .any :: .any :: .any :: .any :: .any :: .any :: .any :: .any :: .any :: .any :: .any :: .any :: .any :: .any :: .any :: .any :: .any :: .any :: .any :: .any :: .any :: .any :: .any :: .any :: .any :: [])) (cx bl id l ((drC (paF l s b) m k).2 : Nat) [.d (I s) :: gt, b.row.map .d]) live gn bl.length → RL VP vf27K0 vf27L0 (bl.length + 2) st Q) :
    RL VP vf27K0 vf27L0 (bl.length + 2) st Q := by
  induction m generalizing k acc v live gn st with
  | zero =>
    refine hQ v live gn st (by simpa [drC] using hv) ?_
    simpa [drC] using hat
  | succ m ih =>
    have hpa : ∀ v live gn st, Acc 3 v live ((acc ++ (paF l s b k).1).map Tm.row) → At vf27K0 (bl.length + 2) st ((.ptr id 0 :: .any :: .any :: .ptr bl.length 0 :: .any :: .d (I 1) :: .ptr (bl.length + 1) 0 :: v :: .d (I ((m : Int) - 1)) :: .any :: .any :: .any :: .any :: .any :: .any :: .any :: .any :: .any :: .any :: .any :: .any :: .any :: .any :: .any :: .any :: .any :: .any :: .any :: .any :: .any :: .any :: .any :: .any :: .any :: .any :: .any :: .any :: .any :: .any :: .any :: .any :: .any :: .any :: .any :: .any :: .any :: .any :: .any :: .any :: .any :: .any :: .any :: .any :: .any :: .any :: .any :: .any :: .any :: .any :: .any :: .any :: .any :: .any :: .any :: .any :: .any :: .any :: .any :: .any :: .any :: .any :: .any :: .any :: .any :: .any :: .any :: .any :: .any :: .any :: .any :: .any :: .any :: .any :: .any :: .any :: .any :: .any :: .any :: .any :: .any :: .any :: .any :: .any :: .any :: .any :: .any :: .any :: .any :: .any :: .any :: .any :: .any :: .any :: .any :: .any :: .any :: .any :: .any :: .any :: .any :: .any :: .any :: .any :: .any :: .any :: .any :: .any :: .any :: .any :: .any :: .any :: .any :: .any :: .any :: .any :: .any :: .any :: .any :: .any :: .any :: .any :: .any :: .any :: .any :: .any :: .any :: .any :: .any :: .any :: .any :: .any :: .any :: .any :: .any :: .any :: .any :: .any :: .any :: .any :: .any :: .any :: .any :: .any :: .any :: .any :: .any :: .any :: .any :: .any :: .any :: .any :: .any :: .any :: .any :: .any :: .any :: .any :: .any :: .any :: .any :: .any :: .any :: .any :: .any :: [])) (cx bl id l ((paF l s b k).2 : Nat) [.d (I s) :: gt, b.row.map .d]) live gn bl.length → (paF l s b k).1.length ≤ 2 → RL VP vf27K0 vf27L0 (bl.length + 2) st Q := by
      intro v live gn st hv hat hlen
      refine ih (paF l s b k).2 _ v live gn (by omega) (by rw [List.length_append]; omega) hv st hat fun v live gn st hv hat => hQ v live gn st ?_ ?_
      · rw [drC]; simpa [List.append_assoc] using hv
      · rw [drC]; exact hat
    clear hQ ih
    have cN : ∀ (n : Int), 0 < n → n ≤ 256 → ∀ (k : Nat) (own : List (List V)), own.map V.erL = own → own.all (V.ltbL (bl.length + own.length)) = true → CV VP 16 [.ptr id 0, .d (I n)] (cx bl id l (k : Nat) own) = some ⟨.d (I (nxV l k n)), cx bl id l (nxA l k : Nat) own, [], 0⟩ := fun n h1 h2 k own => e29 hB h h1 h2
    have c14 := cN 14 (by decide) (by decide)
    have c4 := cN 4 (by decide) (by decide)
    have c20 := cN 20 (by decide) (by decide)
    have c9 := cN 9 (by decide) (by decide)
    have c2 := cN 2 (by decide) (by decide)
    have c3 := cN 3 (by decide) (by decide)
    have c18 := cN 18 (by decide) (by decide)
    have c68 : ∀ (k : Nat) (own : List (List V)), own.map V.erL = own → own.all (V.ltbL (bl.length + own.length)) = true → CV VP 46 [.ptr id 0] (cx bl id l (k : Nat) own) = some ⟨.agg [.d (I 2), .d (I (nmV l k)), .d (.sl [])], cx bl id l (nmA l k : Nat) own, [], 0⟩ := fun k own => cx_lift (fun bl h => e68b hB id k bl h) h
    have c22 : ∀ (k : Nat) (own : List (List V)), own.map V.erL = own → own.all (V.ltbL (bl.length + own.length)) = true → CV VP 104 [.ptr id 0, .d (I 2), .d (I 2)] (cx bl id l (k : Nat) own) = some ⟨.d (.sl ((drS l 2 1 k).1.map Tm.row)), cx bl id l ((drS l 2 1 k).2 : Nat) own, [], 0⟩ := fun k own => cx_lift (fun bl h => e22b hB 2 (by decide) (by decide) 1 (by decide) id k bl h) h
    have r14 := nxV_range hB (k := k) (n := 14) (by decide)
    have q4 := nxV_range hB (k := nxA l k) (n := 4) (by decide)
    have q4b := nxV_range hB (k := nxA l (nxA l k)) (n := 4) (by decide)
    have q20 := nxV_range hB (k := nxA l k) (n := 20) (by decide)
    have q2 := nxV_range hB (k := nxA l k) (n := 2) (by decide)
    have q3 := nxV_range hB (k := nxA l k) (n := 3) (by decide)
    have q18 := nxV_range hB (k := nxA l k) (n := 18) (by decide)
    have m4 : IntKind.i64.wrap (5000 + nxV l (nxA l k) 4) = 5000 + nxV l (nxA l k) 4 := w_in (by omega) (by omega)
    have m20 : IntKind.i64.wrap (900 + nxV l (nxA l k) 20) = 900 + nxV l (nxA l k) 20 := w_in (by omega) (by omega)
    have m18 : IntKind.i64.wrap (1 + nxV l (nxA l k) 18) = 1 + nxV l (nxA l k) 18 := w_in (by omega) (by omega)
    have ms : IntKind.i64.wrap (1 - s) = 1 - s := w_in (by omega) (by omega)
    have hwm : IntKind.i64.wrap (((m + 1 : Nat) : Int) - 1 - 1) = (m : Int) - 1 := by rw [w_in (by omega) (by omega)]; omega
    have hge : (0 : Int) ≤ ((m + 1 : Nat) : Int) - 1 := by omega
    have h64 : ∀ t, t = gold ∨ t = silver ∨ t = exx → CV VP 103 [b.ag, .d (.lit (.string t))] [] = some ⟨.agg [.d (I 3), .d (I 0), .d (.sl ((bxPt b t).args.map Tm.row))], [], [], 0⟩ := fun t ht => e64 _ _ _ _ _ _ _ _ _ _ _ _ _ _ _ _ _ _ t (by rcases ht with rfl | rfl | rfl <;> decide)
    have h64g := h64 gold (.inl rfl)
    have h64s := h64 silver (.inr (.inl rfl))
    have h64x := h64 exx (.inr (.inr rfl))
    have bxr : ∀ t, (bxPt b t).row = [I 3, I 0, .sl ((bxPt b t).args.map Tm.row)] := fun t => Tm.row_eq _
    have hdl : (drS l 2 1 (nxA l (nxA l k))).1.length ≤ 2 := by
      have := nxV_range hB (k := nxA l (nxA l k)) (n := 2 + 1) (by decide)
      rw [drS, drL_len]; omega
    have hd1 : ((drS l 2 1 (nxA l (nxA l k))).1.map Tm.row).length ≤ 1000000 := by rw [List.length_map]; omega
    have hd2 := (Tm.rows3 (drS l 2 1 (nxA l (nxA l k))).1 (by omega)).2
    have hdr := fun n => e40r n _ hd1 hd2
    have a1 : acc.length + 1 ≤ 4294967296 := by omega
    have a2 : acc.length + 2 ≤ 4294967296 := by omega
    have hid := h.lt
    have hg1 : 1 ≤ gt.length + 1 := by omega
    have hb2 : bl.length < bl.length + 2 := by omega
    have hb3 : bl.length + 1 < bl.length + 2 := by omega
    have hid2 : id < bl.length + 2 := by omega
    clear cN h64
    simp only [gold, silver, exx] at h64g h64s h64x
    have hx : nxV l k 14 = 0 ∨ nxV l k 14 = 1 ∨ nxV l k 14 = 2 ∨ nxV l k 14 = 3 ∨ nxV l k 14 = 4 ∨ nxV l k 14 = 5 ∨ nxV l k 14 = 6 ∨ nxV l k 14 = 7 ∨ nxV l k 14 = 8 ∨ nxV l k 14 = 9 ∨ nxV l k 14 = 10 ∨ nxV l k 14 = 11 ∨ nxV l k 14 = 12 ∨ nxV l k 14 = 13 := by omega
    have hx4 : nxV l (nxA l (nxA l k)) 4 = 0 ∨ nxV l (nxA l (nxA l k)) 4 = 1 ∨ nxV l (nxA l (nxA l k)) 4 = 2 ∨ nxV l (nxA l (nxA l k)) 4 = 3 := by omega
    have hx2 : nxV l (nxA l k) 2 = 0 ∨ nxV l (nxA l k) 2 = 1 := by omega
    have hx3 : nxV l (nxA l k) 3 = 0 ∨ nxV l (nxA l k) 3 = 1 ∨ nxV l (nxA l k) 3 = 2 := by omega
    clear r14 q4 q4b q20 q2 q3 q18 hs hB
    rcases hx with hx | hx | hx | hx | hx | hx | hx | hx | hx | hx | hx | hx | hx | hx
    · have hp := hpa
      simp only [paF, hx, Int.reduceEq, or_false, false_or, or_true, true_or, if_true, if_false, or_self] at hp
      clear hpa
      rcases hx4 with hx4 | hx4 | hx4 | hx4
      all_goals
        simp only [paNm, hx4, Int.reduceEq, if_true, if_false] at hp
        rcases hv with ⟨rfl, rfl, hr0⟩ | ⟨g, rfl, rfl⟩ <;>
        · refine RL_at hat (by (simp only [go_sem, Nat.max_zero, List.isEmpty_cons, Int.reduceToNat, Nat.reducePow, Int.reduceEq, Int.reduceNe, Int.reduceLT, Int.reduceLE, Nat.reduceAdd, Nat.reduceLeDiff, ↓reduceIte, Nat.reduceLT, Nat.reduceMul, Nat.reduceSub, reduceCtorEq, frzLoc, rowCells, vAppM, beq_iff_eq, bne_iff_ne, bne_self_eq_false, beq_self_eq_true, beq_true, beq_false, I, B, w, cx_len, cx_app, cx_own0, cx_own, cx_setOwn0, cx_setOwn, cx_take, cx_takeN, Nat.add_right_cancel_iff, Nat.lt_irrefl, cx_nlt, Nat.not_lt_zero, cx_get' h, cx_setId' h, cx_er h, cx_all0 h, cx_all h, CtxOk.lt h, CtxOk.ne0 h, hb2, hb3, hid2])) (by (simp only [go_sem, Nat.max_zero, List.isEmpty_cons, Int.reduceToNat, Nat.reducePow, Int.reduceEq, Int.reduceNe, Int.reduceLT, Int.reduceLE, Nat.reduceAdd, Nat.reduceLeDiff, ↓reduceIte, Nat.reduceLT, Nat.reduceMul, Nat.reduceSub, reduceCtorEq, frzLoc, rowCells, vAppM, beq_iff_eq, bne_iff_ne, bne_self_eq_false, beq_self_eq_true, beq_true, beq_false, I, B, w, cx_len, cx_app, cx_own0, cx_own, cx_setOwn0, cx_setOwn, cx_take, cx_takeN, Nat.add_right_cancel_iff, Nat.lt_irrefl, cx_nlt, Nat.not_lt_zero, cx_get' h, cx_setId' h, cx_er h, cx_all0 h, cx_all h, CtxOk.lt h, CtxOk.ne0 h, hgl, hb2, hb3, hid2])) (vf27L0_go ?_)
          (repeat (first
    | refine RX_seq ?_
    | refine RX_block ?_
    | ((first | refine RX_reg ?_ | refine RX_cond' ?_ | refine RX_draw0 ?_ | refine RX_draw rfl ?_ | refine RX_skip ?_ | refine RX_gfrz ?_ | refine RX_exit ?_ | refine RX_ret ?_); try (simp only [go_sem, Nat.max_zero, List.isEmpty_cons, Int.reduceToNat, Nat.reducePow, Int.reduceEq, Int.reduceNe, Int.reduceLT, Int.reduceLE, Nat.reduceAdd, Nat.reduceLeDiff, ↓reduceIte, Nat.reduceLT, Nat.reduceMul, Nat.reduceSub, reduceCtorEq, frzLoc, rowCells, vAppM, beq_iff_eq, bne_iff_ne, bne_self_eq_false, beq_self_eq_true, beq_true, beq_false, I, B, w, vf27_res, vf27_keep, cx_len, cx_app, cx_own0, cx_own, cx_setOwn0, cx_setOwn, cx_take, cx_takeN, Nat.add_right_cancel_iff, Nat.lt_irrefl, cx_nlt, Nat.not_lt_zero, cx_get' h, cx_setId' h, cx_er h, cx_all0 h, cx_all h, CtxOk.lt h, CtxOk.ne0 h, gt_iff_lt, ge_iff_le, ibeq, hg1, hgc, hgl, c14, c4, c20, c9, c2, c3, c18, c68, c22, m4, m20, m18, ms, hwm, hge, h64g, h64s, h64x, hdr, a1, a2, hid, hb2, hb3, hid2, e75, e70, e77, e85n, e85r, List.length_map, hx, hx4]))))
          refine hp _ _ _ _ (.inr ⟨_, ?_, rfl⟩) ⟨rfl, ?_, rfl, rfl, rfl, rfl⟩ (by simp)
          · first | (rw [List.map_append, hr0]; simp [pT_row, nT_row, gNm_row, nmT_row, bxr, Tm.row_mk, gold, silver, exx]; done) | (rw [List.map_append]; simp [pT_row, nT_row, gNm_row, nmT_row, bxr, Tm.row_mk, gold, silver, exx]; done)
          · (simp only [cx_takeN, List.take_succ_cons, List.take_zero] <;> try rfl)
    · have hp := hpa
      simp only [paF, hx, Int.reduceEq, or_false, false_or, or_true, true_or, if_true, if_false, or_self] at hp
      clear hpa
      rcases hx4 with hx4 | hx4 | hx4 | hx4
      all_goals
        simp only [paNm, hx4, Int.reduceEq, if_true, if_false] at hp
        rcases hv with ⟨rfl, rfl, hr0⟩ | ⟨g, rfl, rfl⟩ <;>
        · refine RL_at hat (by (simp only [go_sem, Nat.max_zero, List.isEmpty_cons, Int.reduceToNat, Nat.reducePow, Int.reduceEq, Int.reduceNe, Int.reduceLT, Int.reduceLE, Nat.reduceAdd, Nat.reduceLeDiff, ↓reduceIte, Nat.reduceLT, Nat.reduceMul, Nat.reduceSub, reduceCtorEq, frzLoc, rowCells, vAppM, beq_iff_eq, bne_iff_ne, bne_self_eq_false, beq_self_eq_true, beq_true, beq_false, I, B, w, cx_len, cx_app, cx_own0, cx_own, cx_setOwn0, cx_setOwn, cx_take, cx_takeN, Nat.add_right_cancel_iff, Nat.lt_irrefl, cx_nlt, Nat.not_lt_zero, cx_get' h, cx_setId' h, cx_er h, cx_all0 h, cx_all h, CtxOk.lt h, CtxOk.ne0 h, hb2, hb3, hid2])) (by (simp only [go_sem, Nat.max_zero, List.isEmpty_cons, Int.reduceToNat, Nat.reducePow, Int.reduceEq, Int.reduceNe, Int.reduceLT, Int.reduceLE, Nat.reduceAdd, Nat.reduceLeDiff, ↓reduceIte, Nat.reduceLT, Nat.reduceMul, Nat.reduceSub, reduceCtorEq, frzLoc, rowCells, vAppM, beq_iff_eq, bne_iff_ne, bne_self_eq_false, beq_self_eq_true, beq_true, beq_false, I, B, w, cx_len, cx_app, cx_own0, cx_own, cx_setOwn0, cx_setOwn, cx_take, cx_takeN, Nat.add_right_cancel_iff, Nat.lt_irrefl, cx_nlt, Nat.not_lt_zero, cx_get' h, cx_setId' h, cx_er h, cx_all0 h, cx_all h, CtxOk.lt h, CtxOk.ne0 h, hgl, hb2, hb3, hid2])) (vf27L0_go ?_)
          (repeat (first
    | refine RX_seq ?_
    | refine RX_block ?_
    | ((first | refine RX_reg ?_ | refine RX_cond' ?_ | refine RX_draw0 ?_ | refine RX_draw rfl ?_ | refine RX_skip ?_ | refine RX_gfrz ?_ | refine RX_exit ?_ | refine RX_ret ?_); try (simp only [go_sem, Nat.max_zero, List.isEmpty_cons, Int.reduceToNat, Nat.reducePow, Int.reduceEq, Int.reduceNe, Int.reduceLT, Int.reduceLE, Nat.reduceAdd, Nat.reduceLeDiff, ↓reduceIte, Nat.reduceLT, Nat.reduceMul, Nat.reduceSub, reduceCtorEq, frzLoc, rowCells, vAppM, beq_iff_eq, bne_iff_ne, bne_self_eq_false, beq_self_eq_true, beq_true, beq_false, I, B, w, vf27_res, vf27_keep, cx_len, cx_app, cx_own0, cx_own, cx_setOwn0, cx_setOwn, cx_take, cx_takeN, Nat.add_right_cancel_iff, Nat.lt_irrefl, cx_nlt, Nat.not_lt_zero, cx_get' h, cx_setId' h, cx_er h, cx_all0 h, cx_all h, CtxOk.lt h, CtxOk.ne0 h, gt_iff_lt, ge_iff_le, ibeq, hg1, hgc, hgl, c14, c4, c20, c9, c2, c3, c18, c68, c22, m4, m20, m18, ms, hwm, hge, h64g, h64s, h64x, hdr, a1, a2, hid, hb2, hb3, hid2, e75, e70, e77, e85n, e85r, List.length_map, hx, hx4]))))
          refine hp _ _ _ _ (.inr ⟨_, ?_, rfl⟩) ⟨rfl, ?_, rfl, rfl, rfl, rfl⟩ (by simp)
          · first | (rw [List.map_append, hr0]; simp [pT_row, nT_row, gNm_row, nmT_row, bxr, Tm.row_mk, gold, silver, exx]; done) | (rw [List.map_append]; simp [pT_row, nT_row, gNm_row, nmT_row, bxr, Tm.row_mk, gold, silver, exx]; done)
          · (simp only [cx_takeN, List.take_succ_cons, List.take_zero] <;> try rfl)
    · have hp := hpa
      simp only [paF, hx, Int.reduceEq, or_false, false_or, or_true, true_or, if_true, if_false, or_self] at hp
      clear hpa
      rcases hx4 with hx4 | hx4 | hx4 | hx4
      all_goals
        simp only [paNm, hx4, Int.reduceEq, if_true, if_false] at hp
        rcases hv with ⟨rfl, rfl, hr0⟩ | ⟨g, rfl, rfl⟩ <;>
        · refine RL_at hat (by (simp only [go_sem, Nat.max_zero, List.isEmpty_cons, Int.reduceToNat, Nat.reducePow, Int.reduceEq, Int.reduceNe, Int.reduceLT, Int.reduceLE, Nat.reduceAdd, Nat.reduceLeDiff, ↓reduceIte, Nat.reduceLT, Nat.reduceMul, Nat.reduceSub, reduceCtorEq, frzLoc, rowCells, vAppM, beq_iff_eq, bne_iff_ne, bne_self_eq_false, beq_self_eq_true, beq_true, beq_false, I, B, w, cx_len, cx_app, cx_own0, cx_own, cx_setOwn0, cx_setOwn, cx_take, cx_takeN, Nat.add_right_cancel_iff, Nat.lt_irrefl, cx_nlt, Nat.not_lt_zero, cx_get' h, cx_setId' h, cx_er h, cx_all0 h, cx_all h, CtxOk.lt h, CtxOk.ne0 h, hb2, hb3, hid2])) (by (simp only [go_sem, Nat.max_zero, List.isEmpty_cons, Int.reduceToNat, Nat.reducePow, Int.reduceEq, Int.reduceNe, Int.reduceLT, Int.reduceLE, Nat.reduceAdd, Nat.reduceLeDiff, ↓reduceIte, Nat.reduceLT, Nat.reduceMul, Nat.reduceSub, reduceCtorEq, frzLoc, rowCells, vAppM, beq_iff_eq, bne_iff_ne, bne_self_eq_false, beq_self_eq_true, beq_true, beq_false, I, B, w, cx_len, cx_app, cx_own0, cx_own, cx_setOwn0, cx_setOwn, cx_take, cx_takeN, Nat.add_right_cancel_iff, Nat.lt_irrefl, cx_nlt, Nat.not_lt_zero, cx_get' h, cx_setId' h, cx_er h, cx_all0 h, cx_all h, CtxOk.lt h, CtxOk.ne0 h, hgl, hb2, hb3, hid2])) (vf27L0_go ?_)
          (repeat (first
    | refine RX_seq ?_
    | refine RX_block ?_
    | ((first | refine RX_reg ?_ | refine RX_cond' ?_ | refine RX_draw0 ?_ | refine RX_draw rfl ?_ | refine RX_skip ?_ | refine RX_gfrz ?_ | refine RX_exit ?_ | refine RX_ret ?_); try (simp only [go_sem, Nat.max_zero, List.isEmpty_cons, Int.reduceToNat, Nat.reducePow, Int.reduceEq, Int.reduceNe, Int.reduceLT, Int.reduceLE, Nat.reduceAdd, Nat.reduceLeDiff, ↓reduceIte, Nat.reduceLT, Nat.reduceMul, Nat.reduceSub, reduceCtorEq, frzLoc, rowCells, vAppM, beq_iff_eq, bne_iff_ne, bne_self_eq_false, beq_self_eq_true, beq_true, beq_false, I, B, w, vf27_res, vf27_keep, cx_len, cx_app, cx_own0, cx_own, cx_setOwn0, cx_setOwn, cx_take, cx_takeN, Nat.add_right_cancel_iff, Nat.lt_irrefl, cx_nlt, Nat.not_lt_zero, cx_get' h, cx_setId' h, cx_er h, cx_all0 h, cx_all h, CtxOk.lt h, CtxOk.ne0 h, gt_iff_lt, ge_iff_le, ibeq, hg1, hgc, hgl, c14, c4, c20, c9, c2, c3, c18, c68, c22, m4, m20, m18, ms, hwm, hge, h64g, h64s, h64x, hdr, a1, a2, hid, hb2, hb3, hid2, e75, e70, e77, e85n, e85r, List.length_map, hx, hx4]))))
          refine hp _ _ _ _ (.inr ⟨_, ?_, rfl⟩) ⟨rfl, ?_, rfl, rfl, rfl, rfl⟩ (by simp)
          · first | (rw [List.map_append, hr0]; simp [pT_row, nT_row, gNm_row, nmT_row, bxr, Tm.row_mk, gold, silver, exx]; done) | (rw [List.map_append]; simp [pT_row, nT_row, gNm_row, nmT_row, bxr, Tm.row_mk, gold, silver, exx]; done)
          · (simp only [cx_takeN, List.take_succ_cons, List.take_zero] <;> try rfl)
    · have hp := hpa
      simp only [paF, hx, Int.reduceEq, or_false, false_or, or_true, true_or, if_true, if_false, or_self] at hp
      clear hpa
      rcases hv with ⟨rfl, rfl, hr0⟩ | ⟨g, rfl, rfl⟩ <;>
      · refine RL_at hat (by (simp only [go_sem, Nat.max_zero, List.isEmpty_cons, Int.reduceToNat, Nat.reducePow, Int.reduceEq, Int.reduceNe, Int.reduceLT, Int.reduceLE, Nat.reduceAdd, Nat.reduceLeDiff, ↓reduceIte, Nat.reduceLT, Nat.reduceMul, Nat.reduceSub, reduceCtorEq, frzLoc, rowCells, vAppM, beq_iff_eq, bne_iff_ne, bne_self_eq_false, beq_self_eq_true, beq_true, beq_false, I, B, w, cx_len, cx_app, cx_own0, cx_own, cx_setOwn0, cx_setOwn, cx_take, cx_takeN, Nat.add_right_cancel_iff, Nat.lt_irrefl, cx_nlt, Nat.not_lt_zero, cx_get' h, cx_setId' h, cx_er h, cx_all0 h, cx_all h, CtxOk.lt h, CtxOk.ne0 h, hb2, hb3, hid2])) (by (simp only [go_sem, Nat.max_zero, List.isEmpty_cons, Int.reduceToNat, Nat.reducePow, Int.reduceEq, Int.reduceNe, Int.reduceLT, Int.reduceLE, Nat.reduceAdd, Nat.reduceLeDiff, ↓reduceIte, Nat.reduceLT, Nat.reduceMul, Nat.reduceSub, reduceCtorEq, frzLoc, rowCells, vAppM, beq_iff_eq, bne_iff_ne, bne_self_eq_false, beq_self_eq_true, beq_true, beq_false, I, B, w, cx_len, cx_app, cx_own0, cx_own, cx_setOwn0, cx_setOwn, cx_take, cx_takeN, Nat.add_right_cancel_iff, Nat.lt_irrefl, cx_nlt, Nat.not_lt_zero, cx_get' h, cx_setId' h, cx_er h, cx_all0 h, cx_all h, CtxOk.lt h, CtxOk.ne0 h, hgl, hb2, hb3, hid2])) (vf27L0_go ?_)
        (repeat (first
    | refine RX_seq ?_
    | refine RX_block ?_
    | ((first | refine RX_reg ?_ | refine RX_cond' ?_ | refine RX_draw0 ?_ | refine RX_draw rfl ?_ | refine RX_skip ?_ | refine RX_gfrz ?_ | refine RX_exit ?_ | refine RX_ret ?_); try (simp only [go_sem, Nat.max_zero, List.isEmpty_cons, Int.reduceToNat, Nat.reducePow, Int.reduceEq, Int.reduceNe, Int.reduceLT, Int.reduceLE, Nat.reduceAdd, Nat.reduceLeDiff, ↓reduceIte, Nat.reduceLT, Nat.reduceMul, Nat.reduceSub, reduceCtorEq, frzLoc, rowCells, vAppM, beq_iff_eq, bne_iff_ne, bne_self_eq_false, beq_self_eq_true, beq_true, beq_false, I, B, w, vf27_res, vf27_keep, cx_len, cx_app, cx_own0, cx_own, cx_setOwn0, cx_setOwn, cx_take, cx_takeN, Nat.add_right_cancel_iff, Nat.lt_irrefl, cx_nlt, Nat.not_lt_zero, cx_get' h, cx_setId' h, cx_er h, cx_all0 h, cx_all h, CtxOk.lt h, CtxOk.ne0 h, gt_iff_lt, ge_iff_le, ibeq, hg1, hgc, hgl, c14, c4, c20, c9, c2, c3, c18, c68, c22, m4, m20, m18, ms, hwm, hge, h64g, h64s, h64x, hdr, a1, a2, hid, hb2, hb3, hid2, e75, e70, e77, e85n, e85r, List.length_map, hx]))))
        refine hp _ _ _ _ (.inr ⟨_, ?_, rfl⟩) ⟨rfl, ?_, rfl, rfl, rfl, rfl⟩ (by simp)
        · first | (rw [List.map_append, hr0]; simp [pT_row, nT_row, gNm_row, nmT_row, bxr, Tm.row_mk, gold, silver, exx]; done) | (rw [List.map_append]; simp [pT_row, nT_row, gNm_row, nmT_row, bxr, Tm.row_mk, gold, silver, exx]; done)
        · (simp only [cx_takeN, List.take_succ_cons, List.take_zero] <;> try rfl)
    · have hp := hpa
      simp only [paF, hx, Int.reduceEq, or_false, false_or, or_true, true_or, if_true, if_false, or_self] at hp
      clear hpa
      rcases hv with ⟨rfl, rfl, hr0⟩ | ⟨g, rfl, rfl⟩ <;>
      · refine RL_at hat (by (simp only [go_sem, Nat.max_zero, List.isEmpty_cons, Int.reduceToNat, Nat.reducePow, Int.reduceEq, Int.reduceNe, Int.reduceLT, Int.reduceLE, Nat.reduceAdd, Nat.reduceLeDiff, ↓reduceIte, Nat.reduceLT, Nat.reduceMul, Nat.reduceSub, reduceCtorEq, frzLoc, rowCells, vAppM, beq_iff_eq, bne_iff_ne, bne_self_eq_false, beq_self_eq_true, beq_true, beq_false, I, B, w, cx_len, cx_app, cx_own0, cx_own, cx_setOwn0, cx_setOwn, cx_take, cx_takeN, Nat.add_right_cancel_iff, Nat.lt_irrefl, cx_nlt, Nat.not_lt_zero, cx_get' h, cx_setId' h, cx_er h, cx_all0 h, cx_all h, CtxOk.lt h, CtxOk.ne0 h, hb2, hb3, hid2])) (by (simp only [go_sem, Nat.max_zero, List.isEmpty_cons, Int.reduceToNat, Nat.reducePow, Int.reduceEq, Int.reduceNe, Int.reduceLT, Int.reduceLE, Nat.reduceAdd, Nat.reduceLeDiff, ↓reduceIte, Nat.reduceLT, Nat.reduceMul, Nat.reduceSub, reduceCtorEq, frzLoc, rowCells, vAppM, beq_iff_eq, bne_iff_ne, bne_self_eq_false, beq_self_eq_true, beq_true, beq_false, I, B, w, cx_len, cx_app, cx_own0, cx_own, cx_setOwn0, cx_setOwn, cx_take, cx_takeN, Nat.add_right_cancel_iff, Nat.lt_irrefl, cx_nlt, Nat.not_lt_zero, cx_get' h, cx_setId' h, cx_er h, cx_all0 h, cx_all h, CtxOk.lt h, CtxOk.ne0 h, hgl, hb2, hb3, hid2])) (vf27L0_go ?_)
        (repeat (first
    | refine RX_seq ?_
    | refine RX_block ?_
    | ((first | refine RX_reg ?_ | refine RX_cond' ?_ | refine RX_draw0 ?_ | refine RX_draw rfl ?_ | refine RX_skip ?_ | refine RX_gfrz ?_ | refine RX_exit ?_ | refine RX_ret ?_); try (simp only [go_sem, Nat.max_zero, List.isEmpty_cons, Int.reduceToNat, Nat.reducePow, Int.reduceEq, Int.reduceNe, Int.reduceLT, Int.reduceLE, Nat.reduceAdd, Nat.reduceLeDiff, ↓reduceIte, Nat.reduceLT, Nat.reduceMul, Nat.reduceSub, reduceCtorEq, frzLoc, rowCells, vAppM, beq_iff_eq, bne_iff_ne, bne_self_eq_false, beq_self_eq_true, beq_true, beq_false, I, B, w, vf27_res, vf27_keep, cx_len, cx_app, cx_own0, cx_own, cx_setOwn0, cx_setOwn, cx_take, cx_takeN, Nat.add_right_cancel_iff, Nat.lt_irrefl, cx_nlt, Nat.not_lt_zero, cx_get' h, cx_setId' h, cx_er h, cx_all0 h, cx_all h, CtxOk.lt h, CtxOk.ne0 h, gt_iff_lt, ge_iff_le, ibeq, hg1, hgc, hgl, c14, c4, c20, c9, c2, c3, c18, c68, c22, m4, m20, m18, ms, hwm, hge, h64g, h64s, h64x, hdr, a1, a2, hid, hb2, hb3, hid2, e75, e70, e77, e85n, e85r, List.length_map, hx]))))
        refine hp _ _ _ _ (.inr ⟨_, ?_, rfl⟩) ⟨rfl, ?_, rfl, rfl, rfl, rfl⟩ (by simp)
        · first | (rw [List.map_append, hr0]; simp [pT_row, nT_row, gNm_row, nmT_row, bxr, Tm.row_mk, gold, silver, exx]; done) | (rw [List.map_append]; simp [pT_row, nT_row, gNm_row, nmT_row, bxr, Tm.row_mk, gold, silver, exx]; done)
        · (simp only [cx_takeN, List.take_succ_cons, List.take_zero] <;> try rfl)
    · have hp := hpa
      simp only [paF, hx, Int.reduceEq, or_false, false_or, or_true, true_or, if_true, if_false, or_self] at hp
      clear hpa
      rcases hv with ⟨rfl, rfl, hr0⟩ | ⟨g, rfl, rfl⟩ <;>
      · refine RL_at hat (by (simp only [go_sem, Nat.max_zero, List.isEmpty_cons, Int.reduceToNat, Nat.reducePow, Int.reduceEq, Int.reduceNe, Int.reduceLT, Int.reduceLE, Nat.reduceAdd, Nat.reduceLeDiff, ↓reduceIte, Nat.reduceLT, Nat.reduceMul, Nat.reduceSub, reduceCtorEq, frzLoc, rowCells, vAppM, beq_iff_eq, bne_iff_ne, bne_self_eq_false, beq_self_eq_true, beq_true, beq_false, I, B, w, cx_len, cx_app, cx_own0, cx_own, cx_setOwn0, cx_setOwn, cx_take, cx_takeN, Nat.add_right_cancel_iff, Nat.lt_irrefl, cx_nlt, Nat.not_lt_zero, cx_get' h, cx_setId' h, cx_er h, cx_all0 h, cx_all h, CtxOk.lt h, CtxOk.ne0 h, hb2, hb3, hid2])) (by (simp only [go_sem, Nat.max_zero, List.isEmpty_cons, Int.reduceToNat, Nat.reducePow, Int.reduceEq, Int.reduceNe, Int.reduceLT, Int.reduceLE, Nat.reduceAdd, Nat.reduceLeDiff, ↓reduceIte, Nat.reduceLT, Nat.reduceMul, Nat.reduceSub, reduceCtorEq, frzLoc, rowCells, vAppM, beq_iff_eq, bne_iff_ne, bne_self_eq_false, beq_self_eq_true, beq_true, beq_false, I, B, w, cx_len, cx_app, cx_own0, cx_own, cx_setOwn0, cx_setOwn, cx_take, cx_takeN, Nat.add_right_cancel_iff, Nat.lt_irrefl, cx_nlt, Nat.not_lt_zero, cx_get' h, cx_setId' h, cx_er h, cx_all0 h, cx_all h, CtxOk.lt h, CtxOk.ne0 h, hgl, hb2, hb3, hid2])) (vf27L0_go ?_)
        (repeat (first
    | refine RX_seq ?_
    | refine RX_block ?_
    | ((first | refine RX_reg ?_ | refine RX_cond' ?_ | refine RX_draw0 ?_ | refine RX_draw rfl ?_ | refine RX_skip ?_ | refine RX_gfrz ?_ | refine RX_exit ?_ | refine RX_ret ?_); try (simp only [go_sem, Nat.max_zero, List.isEmpty_cons, Int.reduceToNat, Nat.reducePow, Int.reduceEq, Int.reduceNe, Int.reduceLT, Int.reduceLE, Nat.reduceAdd, Nat.reduceLeDiff, ↓reduceIte, Nat.reduceLT, Nat.reduceMul, Nat.reduceSub, reduceCtorEq, frzLoc, rowCells, vAppM, beq_iff_eq, bne_iff_ne, bne_self_eq_false, beq_self_eq_true, beq_true, beq_false, I, B, w, vf27_res, vf27_keep, cx_len, cx_app, cx_own0, cx_own, cx_setOwn0, cx_setOwn, cx_take, cx_takeN, Nat.add_right_cancel_iff, Nat.lt_irrefl, cx_nlt, Nat.not_lt_zero, cx_get' h, cx_setId' h, cx_er h, cx_all0 h, cx_all h, CtxOk.lt h, CtxOk.ne0 h, gt_iff_lt, ge_iff_le, ibeq, hg1, hgc, hgl, c14, c4, c20, c9, c2, c3, c18, c68, c22, m4, m20, m18, ms, hwm, hge, h64g, h64s, h64x, hdr, a1, a2, hid, hb2, hb3, hid2, e75, e70, e77, e85n, e85r, List.length_map, hx]))))
        refine hp _ _ _ _ (.inr ⟨_, ?_, rfl⟩) ⟨rfl, ?_, rfl, rfl, rfl, rfl⟩ (by simp)
        · first | (rw [List.map_append, hr0]; simp [pT_row, nT_row, gNm_row, nmT_row, bxr, Tm.row_mk, gold, silver, exx]; done) | (rw [List.map_append]; simp [pT_row, nT_row, gNm_row, nmT_row, bxr, Tm.row_mk, gold, silver, exx]; done)
        · (simp only [cx_takeN, List.take_succ_cons, List.take_zero] <;> try rfl)
    · have hp := hpa
      simp only [paF, hx, Int.reduceEq, or_false, false_or, or_true, true_or, if_true, if_false, or_self] at hp
      clear hpa
      rcases hv with ⟨rfl, rfl, hr0⟩ | ⟨g, rfl, rfl⟩ <;>
      · refine RL_at hat (by (simp only [go_sem, Nat.max_zero, List.isEmpty_cons, Int.reduceToNat, Nat.reducePow, Int.reduceEq, Int.reduceNe, Int.reduceLT, Int.reduceLE, Nat.reduceAdd, Nat.reduceLeDiff, ↓reduceIte, Nat.reduceLT, Nat.reduceMul, Nat.reduceSub, reduceCtorEq, frzLoc, rowCells, vAppM, beq_iff_eq, bne_iff_ne, bne_self_eq_false, beq_self_eq_true, beq_true, beq_false, I, B, w, cx_len, cx_app, cx_own0, cx_own, cx_setOwn0, cx_setOwn, cx_take, cx_takeN, Nat.add_right_cancel_iff, Nat.lt_irrefl, cx_nlt, Nat.not_lt_zero, cx_get' h, cx_setId' h, cx_er h, cx_all0 h, cx_all h, CtxOk.lt h, CtxOk.ne0 h, hb2, hb3, hid2])) (by (simp only [go_sem, Nat.max_zero, List.isEmpty_cons, Int.reduceToNat, Nat.reducePow, Int.reduceEq, Int.reduceNe, Int.reduceLT, Int.reduceLE, Nat.reduceAdd, Nat.reduceLeDiff, ↓reduceIte, Nat.reduceLT, Nat.reduceMul, Nat.reduceSub, reduceCtorEq, frzLoc, rowCells, vAppM, beq_iff_eq, bne_iff_ne, bne_self_eq_false, beq_self_eq_true, beq_true, beq_false, I, B, w, cx_len, cx_app, cx_own0, cx_own, cx_setOwn0, cx_setOwn, cx_take, cx_takeN, Nat.add_right_cancel_iff, Nat.lt_irrefl, cx_nlt, Nat.not_lt_zero, cx_get' h, cx_setId' h, cx_er h, cx_all0 h, cx_all h, CtxOk.lt h, CtxOk.ne0 h, hgl, hb2, hb3, hid2])) (vf27L0_go ?_)
        (repeat (first
    | refine RX_seq ?_
    | refine RX_block ?_
    | ((first | refine RX_reg ?_ | refine RX_cond' ?_ | refine RX_draw0 ?_ | refine RX_draw rfl ?_ | refine RX_skip ?_ | refine RX_gfrz ?_ | refine RX_exit ?_ | refine RX_ret ?_); try (simp only [go_sem, Nat.max_zero, List.isEmpty_cons, Int.reduceToNat, Nat.reducePow, Int.reduceEq, Int.reduceNe, Int.reduceLT, Int.reduceLE, Nat.reduceAdd, Nat.reduceLeDiff, ↓reduceIte, Nat.reduceLT, Nat.reduceMul, Nat.reduceSub, reduceCtorEq, frzLoc, rowCells, vAppM, beq_iff_eq, bne_iff_ne, bne_self_eq_false, beq_self_eq_true, beq_true, beq_false, I, B, w, vf27_res, vf27_keep, cx_len, cx_app, cx_own0, cx_own, cx_setOwn0, cx_setOwn, cx_take, cx_takeN, Nat.add_right_cancel_iff, Nat.lt_irrefl, cx_nlt, Nat.not_lt_zero, cx_get' h, cx_setId' h, cx_er h, cx_all0 h, cx_all h, CtxOk.lt h, CtxOk.ne0 h, gt_iff_lt, ge_iff_le, ibeq, hg1, hgc, hgl, c14, c4, c20, c9, c2, c3, c18, c68, c22, m4, m20, m18, ms, hwm, hge, h64g, h64s, h64x, hdr, a1, a2, hid, hb2, hb3, hid2, e75, e70, e77, e85n, e85r, List.length_map, hx]))))
        refine hp _ _ _ _ (.inr ⟨_, ?_, rfl⟩) ⟨rfl, ?_, rfl, rfl, rfl, rfl⟩ (by simp)
        · first | (rw [List.map_append, hr0]; simp [pT_row, nT_row, gNm_row, nmT_row, bxr, Tm.row_mk, gold, silver, exx]; done) | (rw [List.map_append]; simp [pT_row, nT_row, gNm_row, nmT_row, bxr, Tm.row_mk, gold, silver, exx]; done)
        · (simp only [cx_takeN, List.take_succ_cons, List.take_zero] <;> try rfl)
    · have hp := hpa
      simp only [paF, hx, Int.reduceEq, or_false, false_or, or_true, true_or, if_true, if_false, or_self] at hp
      clear hpa
      rcases hv with ⟨rfl, rfl, hr0⟩ | ⟨g, rfl, rfl⟩ <;>
      · refine RL_at hat (by (simp only [go_sem, Nat.max_zero, List.isEmpty_cons, Int.reduceToNat, Nat.reducePow, Int.reduceEq, Int.reduceNe, Int.reduceLT, Int.reduceLE, Nat.reduceAdd, Nat.reduceLeDiff, ↓reduceIte, Nat.reduceLT, Nat.reduceMul, Nat.reduceSub, reduceCtorEq, frzLoc, rowCells, vAppM, beq_iff_eq, bne_iff_ne, bne_self_eq_false, beq_self_eq_true, beq_true, beq_false, I, B, w, cx_len, cx_app, cx_own0, cx_own, cx_setOwn0, cx_setOwn, cx_take, cx_takeN, Nat.add_right_cancel_iff, Nat.lt_irrefl, cx_nlt, Nat.not_lt_zero, cx_get' h, cx_setId' h, cx_er h, cx_all0 h, cx_all h, CtxOk.lt h, CtxOk.ne0 h, hb2, hb3, hid2])) (by (simp only [go_sem, Nat.max_zero, List.isEmpty_cons, Int.reduceToNat, Nat.reducePow, Int.reduceEq, Int.reduceNe, Int.reduceLT, Int.reduceLE, Nat.reduceAdd, Nat.reduceLeDiff, ↓reduceIte, Nat.reduceLT, Nat.reduceMul, Nat.reduceSub, reduceCtorEq, frzLoc, rowCells, vAppM, beq_iff_eq, bne_iff_ne, bne_self_eq_false, beq_self_eq_true, beq_true, beq_false, I, B, w, cx_len, cx_app, cx_own0, cx_own, cx_setOwn0, cx_setOwn, cx_take, cx_takeN, Nat.add_right_cancel_iff, Nat.lt_irrefl, cx_nlt, Nat.not_lt_zero, cx_get' h, cx_setId' h, cx_er h, cx_all0 h, cx_all h, CtxOk.lt h, CtxOk.ne0 h, hgl, hb2, hb3, hid2])) (vf27L0_go ?_)
        (repeat (first
    | refine RX_seq ?_
    | refine RX_block ?_
    | ((first | refine RX_reg ?_ | refine RX_cond' ?_ | refine RX_draw0 ?_ | refine RX_draw rfl ?_ | refine RX_skip ?_ | refine RX_gfrz ?_ | refine RX_exit ?_ | refine RX_ret ?_); try (simp only [go_sem, Nat.max_zero, List.isEmpty_cons, Int.reduceToNat, Nat.reducePow, Int.reduceEq, Int.reduceNe, Int.reduceLT, Int.reduceLE, Nat.reduceAdd, Nat.reduceLeDiff, ↓reduceIte, Nat.reduceLT, Nat.reduceMul, Nat.reduceSub, reduceCtorEq, frzLoc, rowCells, vAppM, beq_iff_eq, bne_iff_ne, bne_self_eq_false, beq_self_eq_true, beq_true, beq_false, I, B, w, vf27_res, vf27_keep, cx_len, cx_app, cx_own0, cx_own, cx_setOwn0, cx_setOwn, cx_take, cx_takeN, Nat.add_right_cancel_iff, Nat.lt_irrefl, cx_nlt, Nat.not_lt_zero, cx_get' h, cx_setId' h, cx_er h, cx_all0 h, cx_all h, CtxOk.lt h, CtxOk.ne0 h, gt_iff_lt, ge_iff_le, ibeq, hg1, hgc, hgl, c14, c4, c20, c9, c2, c3, c18, c68, c22, m4, m20, m18, ms, hwm, hge, h64g, h64s, h64x, hdr, a1, a2, hid, hb2, hb3, hid2, e75, e70, e77, e85n, e85r, List.length_map, hx]))))
        refine hp _ _ _ _ (.inr ⟨_, ?_, rfl⟩) ⟨rfl, ?_, rfl, rfl, rfl, rfl⟩ (by simp)
        · first | (rw [List.map_append, hr0]; simp [pT_row, nT_row, gNm_row, nmT_row, bxr, Tm.row_mk, gold, silver, exx]; done) | (rw [List.map_append]; simp [pT_row, nT_row, gNm_row, nmT_row, bxr, Tm.row_mk, gold, silver, exx]; done)
        · (simp only [cx_takeN, List.take_succ_cons, List.take_zero] <;> try rfl)
    · have hp := hpa
      simp only [paF, hx, Int.reduceEq, or_false, false_or, or_true, true_or, if_true, if_false, or_self] at hp
      clear hpa
      rcases hv with ⟨rfl, rfl, hr0⟩ | ⟨g, rfl, rfl⟩ <;>
      · refine RL_at hat (by (simp only [go_sem, Nat.max_zero, List.isEmpty_cons, Int.reduceToNat, Nat.reducePow, Int.reduceEq, Int.reduceNe, Int.reduceLT, Int.reduceLE, Nat.reduceAdd, Nat.reduceLeDiff, ↓reduceIte, Nat.reduceLT, Nat.reduceMul, Nat.reduceSub, reduceCtorEq, frzLoc, rowCells, vAppM, beq_iff_eq, bne_iff_ne, bne_self_eq_false, beq_self_eq_true, beq_true, beq_false, I, B, w, cx_len, cx_app, cx_own0, cx_own, cx_setOwn0, cx_setOwn, cx_take, cx_takeN, Nat.add_right_cancel_iff, Nat.lt_irrefl, cx_nlt, Nat.not_lt_zero, cx_get' h, cx_setId' h, cx_er h, cx_all0 h, cx_all h, CtxOk.lt h, CtxOk.ne0 h, hb2, hb3, hid2])) (by (simp only [go_sem, Nat.max_zero, List.isEmpty_cons, Int.reduceToNat, Nat.reducePow, Int.reduceEq, Int.reduceNe, Int.reduceLT, Int.reduceLE, Nat.reduceAdd, Nat.reduceLeDiff, ↓reduceIte, Nat.reduceLT, Nat.reduceMul, Nat.reduceSub, reduceCtorEq, frzLoc, rowCells, vAppM, beq_iff_eq, bne_iff_ne, bne_self_eq_false, beq_self_eq_true, beq_true, beq_false, I, B, w, cx_len, cx_app, cx_own0, cx_own, cx_setOwn0, cx_setOwn, cx_take, cx_takeN, Nat.add_right_cancel_iff, Nat.lt_irrefl, cx_nlt, Nat.not_lt_zero, cx_get' h, cx_setId' h, cx_er h, cx_all0 h, cx_all h, CtxOk.lt h, CtxOk.ne0 h, hgl, hb2, hb3, hid2])) (vf27L0_go ?_)
        (repeat (first
    | refine RX_seq ?_
    | refine RX_block ?_
    | ((first | refine RX_reg ?_ | refine RX_cond' ?_ | refine RX_draw0 ?_ | refine RX_draw rfl ?_ | refine RX_skip ?_ | refine RX_gfrz ?_ | refine RX_exit ?_ | refine RX_ret ?_); try (simp only [go_sem, Nat.max_zero, List.isEmpty_cons, Int.reduceToNat, Nat.reducePow, Int.reduceEq, Int.reduceNe, Int.reduceLT, Int.reduceLE, Nat.reduceAdd, Nat.reduceLeDiff, ↓reduceIte, Nat.reduceLT, Nat.reduceMul, Nat.reduceSub, reduceCtorEq, frzLoc, rowCells, vAppM, beq_iff_eq, bne_iff_ne, bne_self_eq_false, beq_self_eq_true, beq_true, beq_false, I, B, w, vf27_res, vf27_keep, cx_len, cx_app, cx_own0, cx_own, cx_setOwn0, cx_setOwn, cx_take, cx_takeN, Nat.add_right_cancel_iff, Nat.lt_irrefl, cx_nlt, Nat.not_lt_zero, cx_get' h, cx_setId' h, cx_er h, cx_all0 h, cx_all h, CtxOk.lt h, CtxOk.ne0 h, gt_iff_lt, ge_iff_le, ibeq, hg1, hgc, hgl, c14, c4, c20, c9, c2, c3, c18, c68, c22, m4, m20, m18, ms, hwm, hge, h64g, h64s, h64x, hdr, a1, a2, hid, hb2, hb3, hid2, e75, e70, e77, e85n, e85r, List.length_map, hx]))))
        refine hp _ _ _ _ (.inr ⟨_, ?_, rfl⟩) ⟨rfl, ?_, rfl, rfl, rfl, rfl⟩ (by simp)
        · first | (rw [List.map_append, hr0]; simp [pT_row, nT_row, gNm_row, nmT_row, bxr, Tm.row_mk, gold, silver, exx]; done) | (rw [List.map_append]; simp [pT_row, nT_row, gNm_row, nmT_row, bxr, Tm.row_mk, gold, silver, exx]; done)
        · (simp only [cx_takeN, List.take_succ_cons, List.take_zero] <;> try rfl)
    · have hp := hpa
      simp only [paF, hx, Int.reduceEq, or_false, false_or, or_true, true_or, if_true, if_false, or_self] at hp
      clear hpa
      rcases hv with ⟨rfl, rfl, hr0⟩ | ⟨g, rfl, rfl⟩ <;>
      · refine RL_at hat (by (simp only [go_sem, Nat.max_zero, List.isEmpty_cons, Int.reduceToNat, Nat.reducePow, Int.reduceEq, Int.reduceNe, Int.reduceLT, Int.reduceLE, Nat.reduceAdd, Nat.reduceLeDiff, ↓reduceIte, Nat.reduceLT, Nat.reduceMul, Nat.reduceSub, reduceCtorEq, frzLoc, rowCells, vAppM, beq_iff_eq, bne_iff_ne, bne_self_eq_false, beq_self_eq_true, beq_true, beq_false, I, B, w, cx_len, cx_app, cx_own0, cx_own, cx_setOwn0, cx_setOwn, cx_take, cx_takeN, Nat.add_right_cancel_iff, Nat.lt_irrefl, cx_nlt, Nat.not_lt_zero, cx_get' h, cx_setId' h, cx_er h, cx_all0 h, cx_all h, CtxOk.lt h, CtxOk.ne0 h, hb2, hb3, hid2])) (by (simp only [go_sem, Nat.max_zero, List.isEmpty_cons, Int.reduceToNat, Nat.reducePow, Int.reduceEq, Int.reduceNe, Int.reduceLT, Int.reduceLE, Nat.reduceAdd, Nat.reduceLeDiff, ↓reduceIte, Nat.reduceLT, Nat.reduceMul, Nat.reduceSub, reduceCtorEq, frzLoc, rowCells, vAppM, beq_iff_eq, bne_iff_ne, bne_self_eq_false, beq_self_eq_true, beq_true, beq_false, I, B, w, cx_len, cx_app, cx_own0, cx_own, cx_setOwn0, cx_setOwn, cx_take, cx_takeN, Nat.add_right_cancel_iff, Nat.lt_irrefl, cx_nlt, Nat.not_lt_zero, cx_get' h, cx_setId' h, cx_er h, cx_all0 h, cx_all h, CtxOk.lt h, CtxOk.ne0 h, hgl, hb2, hb3, hid2])) (vf27L0_go ?_)
        (repeat (first
    | refine RX_seq ?_
    | refine RX_block ?_
    | ((first | refine RX_reg ?_ | refine RX_cond' ?_ | refine RX_draw0 ?_ | refine RX_draw rfl ?_ | refine RX_skip ?_ | refine RX_gfrz ?_ | refine RX_exit ?_ | refine RX_ret ?_); try (simp only [go_sem, Nat.max_zero, List.isEmpty_cons, Int.reduceToNat, Nat.reducePow, Int.reduceEq, Int.reduceNe, Int.reduceLT, Int.reduceLE, Nat.reduceAdd, Nat.reduceLeDiff, ↓reduceIte, Nat.reduceLT, Nat.reduceMul, Nat.reduceSub, reduceCtorEq, frzLoc, rowCells, vAppM, beq_iff_eq, bne_iff_ne, bne_self_eq_false, beq_self_eq_true, beq_true, beq_false, I, B, w, vf27_res, vf27_keep, cx_len, cx_app, cx_own0, cx_own, cx_setOwn0, cx_setOwn, cx_take, cx_takeN, Nat.add_right_cancel_iff, Nat.lt_irrefl, cx_nlt, Nat.not_lt_zero, cx_get' h, cx_setId' h, cx_er h, cx_all0 h, cx_all h, CtxOk.lt h, CtxOk.ne0 h, gt_iff_lt, ge_iff_le, ibeq, hg1, hgc, hgl, c14, c4, c20, c9, c2, c3, c18, c68, c22, m4, m20, m18, ms, hwm, hge, h64g, h64s, h64x, hdr, a1, a2, hid, hb2, hb3, hid2, e75, e70, e77, e85n, e85r, List.length_map, hx]))))
        refine hp _ _ _ _ (.inr ⟨_, ?_, rfl⟩) ⟨rfl, ?_, rfl, rfl, rfl, rfl⟩ (by simp)
        · first | (rw [List.map_append, hr0]; simp [pT_row, nT_row, gNm_row, nmT_row, bxr, Tm.row_mk, gold, silver, exx]; done) | (rw [List.map_append]; simp [pT_row, nT_row, gNm_row, nmT_row, bxr, Tm.row_mk, gold, silver, exx]; done)
        · (simp only [cx_takeN, List.take_succ_cons, List.take_zero] <;> try rfl)
    · have hp := hpa
      simp only [paF, hx, Int.reduceEq, or_false, false_or, or_true, true_or, if_true, if_false, or_self] at hp
      clear hpa
      rcases hx2 with hx2 | hx2
      all_goals
        simp only [paNm, hx2, Int.reduceEq, if_true, if_false] at hp
        rcases hv with ⟨rfl, rfl, hr0⟩ | ⟨g, rfl, rfl⟩ <;>
        · refine RL_at hat (by (simp only [go_sem, Nat.max_zero, List.isEmpty_cons, Int.reduceToNat, Nat.reducePow, Int.reduceEq, Int.reduceNe, Int.reduceLT, Int.reduceLE, Nat.reduceAdd, Nat.reduceLeDiff, ↓reduceIte, Nat.reduceLT, Nat.reduceMul, Nat.reduceSub, reduceCtorEq, frzLoc, rowCells, vAppM, beq_iff_eq, bne_iff_ne, bne_self_eq_false, beq_self_eq_true, beq_true, beq_false, I, B, w, cx_len, cx_app, cx_own0, cx_own, cx_setOwn0, cx_setOwn, cx_take, cx_takeN, Nat.add_right_cancel_iff, Nat.lt_irrefl, cx_nlt, Nat.not_lt_zero, cx_get' h, cx_setId' h, cx_er h, cx_all0 h, cx_all h, CtxOk.lt h, CtxOk.ne0 h, hb2, hb3, hid2])) (by (simp only [go_sem, Nat.max_zero, List.isEmpty_cons, Int.reduceToNat, Nat.reducePow, Int.reduceEq, Int.reduceNe, Int.reduceLT, Int.reduceLE, Nat.reduceAdd, Nat.reduceLeDiff, ↓reduceIte, Nat.reduceLT, Nat.reduceMul, Nat.reduceSub, reduceCtorEq, frzLoc, rowCells, vAppM, beq_iff_eq, bne_iff_ne, bne_self_eq_false, beq_self_eq_true, beq_true, beq_false, I, B, w, cx_len, cx_app, cx_own0, cx_own, cx_setOwn0, cx_setOwn, cx_take, cx_takeN, Nat.add_right_cancel_iff, Nat.lt_irrefl, cx_nlt, Nat.not_lt_zero, cx_get' h, cx_setId' h, cx_er h, cx_all0 h, cx_all h, CtxOk.lt h, CtxOk.ne0 h, hgl, hb2, hb3, hid2])) (vf27L0_go ?_)
          (repeat (first
    | refine RX_seq ?_
    | refine RX_block ?_
    | ((first | refine RX_reg ?_ | refine RX_cond' ?_ | refine RX_draw0 ?_ | refine RX_draw rfl ?_ | refine RX_skip ?_ | refine RX_gfrz ?_ | refine RX_exit ?_ | refine RX_ret ?_); try (simp only [go_sem, Nat.max_zero, List.isEmpty_cons, Int.reduceToNat, Nat.reducePow, Int.reduceEq, Int.reduceNe, Int.reduceLT, Int.reduceLE, Nat.reduceAdd, Nat.reduceLeDiff, ↓reduceIte, Nat.reduceLT, Nat.reduceMul, Nat.reduceSub, reduceCtorEq, frzLoc, rowCells, vAppM, beq_iff_eq, bne_iff_ne, bne_self_eq_false, beq_self_eq_true, beq_true, beq_false, I, B, w, vf27_res, vf27_keep, cx_len, cx_app, cx_own0, cx_own, cx_setOwn0, cx_setOwn, cx_take, cx_takeN, Nat.add_right_cancel_iff, Nat.lt_irrefl, cx_nlt, Nat.not_lt_zero, cx_get' h, cx_setId' h, cx_er h, cx_all0 h, cx_all h, CtxOk.lt h, CtxOk.ne0 h, gt_iff_lt, ge_iff_le, ibeq, hg1, hgc, hgl, c14, c4, c20, c9, c2, c3, c18, c68, c22, m4, m20, m18, ms, hwm, hge, h64g, h64s, h64x, hdr, a1, a2, hid, hb2, hb3, hid2, e75, e70, e77, e85n, e85r, List.length_map, hx, hx2]))))
          refine hp _ _ _ _ (.inr ⟨_, ?_, rfl⟩) ⟨rfl, ?_, rfl, rfl, rfl, rfl⟩ (by simp)
          · first | (rw [List.map_append, hr0]; simp [pT_row, nT_row, gNm_row, nmT_row, bxr, Tm.row_mk, gold, silver, exx]; done) | (rw [List.map_append]; simp [pT_row, nT_row, gNm_row, nmT_row, bxr, Tm.row_mk, gold, silver, exx]; done)
          · (simp only [cx_takeN, List.take_succ_cons, List.take_zero] <;> try rfl)
    · have hp := hpa
      simp only [paF, hx, Int.reduceEq, or_false, false_or, or_true, true_or, if_true, if_false, or_self] at hp
      clear hpa
      rcases hv with ⟨rfl, rfl, hr0⟩ | ⟨g, rfl, rfl⟩ <;>
      · refine RL_at hat (by (simp only [go_sem, Nat.max_zero, List.isEmpty_cons, Int.reduceToNat, Nat.reducePow, Int.reduceEq, Int.reduceNe, Int.reduceLT, Int.reduceLE, Nat.reduceAdd, Nat.reduceLeDiff, ↓reduceIte, Nat.reduceLT, Nat.reduceMul, Nat.reduceSub, reduceCtorEq, frzLoc, rowCells, vAppM, beq_iff_eq, bne_iff_ne, bne_self_eq_false, beq_self_eq_true, beq_true, beq_false, I, B, w, cx_len, cx_app, cx_own0, cx_own, cx_setOwn0, cx_setOwn, cx_take, cx_takeN, Nat.add_right_cancel_iff, Nat.lt_irrefl, cx_nlt, Nat.not_lt_zero, cx_get' h, cx_setId' h, cx_er h, cx_all0 h, cx_all h, CtxOk.lt h, CtxOk.ne0 h, hb2, hb3, hid2])) (by (simp only [go_sem, Nat.max_zero, List.isEmpty_cons, Int.reduceToNat, Nat.reducePow, Int.reduceEq, Int.reduceNe, Int.reduceLT, Int.reduceLE, Nat.reduceAdd, Nat.reduceLeDiff, ↓reduceIte, Nat.reduceLT, Nat.reduceMul, Nat.reduceSub, reduceCtorEq, frzLoc, rowCells, vAppM, beq_iff_eq, bne_iff_ne, bne_self_eq_false, beq_self_eq_true, beq_true, beq_false, I, B, w, cx_len, cx_app, cx_own0, cx_own, cx_setOwn0, cx_setOwn, cx_take, cx_takeN, Nat.add_right_cancel_iff, Nat.lt_irrefl, cx_nlt, Nat.not_lt_zero, cx_get' h, cx_setId' h, cx_er h, cx_all0 h, cx_all h, CtxOk.lt h, CtxOk.ne0 h, hgl, hb2, hb3, hid2])) (vf27L0_go ?_)
        (repeat (first
    | refine RX_seq ?_
    | refine RX_block ?_
    | ((first | refine RX_reg ?_ | refine RX_cond' ?_ | refine RX_draw0 ?_ | refine RX_draw rfl ?_ | refine RX_skip ?_ | refine RX_gfrz ?_ | refine RX_exit ?_ | refine RX_ret ?_); try (simp only [go_sem, Nat.max_zero, List.isEmpty_cons, Int.reduceToNat, Nat.reducePow, Int.reduceEq, Int.reduceNe, Int.reduceLT, Int.reduceLE, Nat.reduceAdd, Nat.reduceLeDiff, ↓reduceIte, Nat.reduceLT, Nat.reduceMul, Nat.reduceSub, reduceCtorEq, frzLoc, rowCells, vAppM, beq_iff_eq, bne_iff_ne, bne_self_eq_false, beq_self_eq_true, beq_true, beq_false, I, B, w, vf27_res, vf27_keep, cx_len, cx_app, cx_own0, cx_own, cx_setOwn0, cx_setOwn, cx_take, cx_takeN, Nat.add_right_cancel_iff, Nat.lt_irrefl, cx_nlt, Nat.not_lt_zero, cx_get' h, cx_setId' h, cx_er h, cx_all0 h, cx_all h, CtxOk.lt h, CtxOk.ne0 h, gt_iff_lt, ge_iff_le, ibeq, hg1, hgc, hgl, c14, c4, c20, c9, c2, c3, c18, c68, c22, m4, m20, m18, ms, hwm, hge, h64g, h64s, h64x, hdr, a1, a2, hid, hb2, hb3, hid2, e75, e70, e77, e85n, e85r, List.length_map, hx]))))
        refine hp _ _ _ _ (.inr ⟨_, ?_, rfl⟩) ⟨rfl, ?_, rfl, rfl, rfl, rfl⟩ (by simp)
        · first | (rw [List.map_append, hr0]; simp [pT_row, nT_row, gNm_row, nmT_row, bxr, Tm.row_mk, gold, silver, exx]; done) | (rw [List.map_append]; simp [pT_row, nT_row, gNm_row, nmT_row, bxr, Tm.row_mk, gold, silver, exx]; done)
        · (simp only [cx_takeN, List.take_succ_cons, List.take_zero] <;> try rfl)
    · have hp := hpa
      simp only [paF, hx, Int.reduceEq, or_false, false_or, or_true, true_or, if_true, if_false, or_self] at hp
      clear hpa
      rcases hx3 with hx3 | hx3 | hx3
      all_goals
        simp only [paNm, hx3, Int.reduceEq, if_true, if_false] at hp
        rcases hv with ⟨rfl, rfl, hr0⟩ | ⟨g, rfl, rfl⟩ <;>
        · refine RL_at hat (by (simp only [go_sem, Nat.max_zero, List.isEmpty_cons, Int.reduceToNat, Nat.reducePow, Int.reduceEq, Int.reduceNe, Int.reduceLT, Int.reduceLE, Nat.reduceAdd, Nat.reduceLeDiff, ↓reduceIte, Nat.reduceLT, Nat.reduceMul, Nat.reduceSub, reduceCtorEq, frzLoc, rowCells, vAppM, beq_iff_eq, bne_iff_ne, bne_self_eq_false, beq_self_eq_true, beq_true, beq_false, I, B, w, cx_len, cx_app, cx_own0, cx_own, cx_setOwn0, cx_setOwn, cx_take, cx_takeN, Nat.add_right_cancel_iff, Nat.lt_irrefl, cx_nlt, Nat.not_lt_zero, cx_get' h, cx_setId' h, cx_er h, cx_all0 h, cx_all h, CtxOk.lt h, CtxOk.ne0 h, hb2, hb3, hid2])) (by (simp only [go_sem, Nat.max_zero, List.isEmpty_cons, Int.reduceToNat, Nat.reducePow, Int.reduceEq, Int.reduceNe, Int.reduceLT, Int.reduceLE, Nat.reduceAdd, Nat.reduceLeDiff, ↓reduceIte, Nat.reduceLT, Nat.reduceMul, Nat.reduceSub, reduceCtorEq, frzLoc, rowCells, vAppM, beq_iff_eq, bne_iff_ne, bne_self_eq_false, beq_self_eq_true, beq_true, beq_false, I, B, w, cx_len, cx_app, cx_own0, cx_own, cx_setOwn0, cx_setOwn, cx_take, cx_takeN, Nat.add_right_cancel_iff, Nat.lt_irrefl, cx_nlt, Nat.not_lt_zero, cx_get' h, cx_setId' h, cx_er h, cx_all0 h, cx_all h, CtxOk.lt h, CtxOk.ne0 h, hgl, hb2, hb3, hid2])) (vf27L0_go ?_)
          (repeat (first
    | refine RX_seq ?_
    | refine RX_block ?_
    | ((first | refine RX_reg ?_ | refine RX_cond' ?_ | refine RX_draw0 ?_ | refine RX_draw rfl ?_ | refine RX_skip ?_ | refine RX_gfrz ?_ | refine RX_exit ?_ | refine RX_ret ?_); try (simp only [go_sem, Nat.max_zero, List.isEmpty_cons, Int.reduceToNat, Nat.reducePow, Int.reduceEq, Int.reduceNe, Int.reduceLT, Int.reduceLE, Nat.reduceAdd, Nat.reduceLeDiff, ↓reduceIte, Nat.reduceLT, Nat.reduceMul, Nat.reduceSub, reduceCtorEq, frzLoc, rowCells, vAppM, beq_iff_eq, bne_iff_ne, bne_self_eq_false, beq_self_eq_true, beq_true, beq_false, I, B, w, vf27_res, vf27_keep, cx_len, cx_app, cx_own0, cx_own, cx_setOwn0, cx_setOwn, cx_take, cx_takeN, Nat.add_right_cancel_iff, Nat.lt_irrefl, cx_nlt, Nat.not_lt_zero, cx_get' h, cx_setId' h, cx_er h, cx_all0 h, cx_all h, CtxOk.lt h, CtxOk.ne0 h, gt_iff_lt, ge_iff_le, ibeq, hg1, hgc, hgl, c14, c4, c20, c9, c2, c3, c18, c68, c22, m4, m20, m18, ms, hwm, hge, h64g, h64s, h64x, hdr, a1, a2, hid, hb2, hb3, hid2, e75, e70, e77, e85n, e85r, List.length_map, hx, hx3]))))
          refine hp _ _ _ _ (.inr ⟨_, ?_, rfl⟩) ⟨rfl, ?_, rfl, rfl, rfl, rfl⟩ (by simp)
          · first | (rw [List.map_append, hr0]; simp [pT_row, nT_row, gNm_row, nmT_row, bxr, Tm.row_mk, gold, silver, exx]; done) | (rw [List.map_append]; simp [pT_row, nT_row, gNm_row, nmT_row, bxr, Tm.row_mk, gold, silver, exx]; done)
          · (simp only [cx_takeN, List.take_succ_cons, List.take_zero] <;> try rfl)
    · have hp := hpa
      simp only [paF, hx, Int.reduceEq, or_false, false_or, or_true, true_or, if_true, if_false, or_self] at hp
      clear hpa
      rcases hv with ⟨rfl, rfl, hr0⟩ | ⟨g, rfl, rfl⟩ <;>
      · refine RL_at hat (by (simp only [go_sem, Nat.max_zero, List.isEmpty_cons, Int.reduceToNat, Nat.reducePow, Int.reduceEq, Int.reduceNe, Int.reduceLT, Int.reduceLE, Nat.reduceAdd, Nat.reduceLeDiff, ↓reduceIte, Nat.reduceLT, Nat.reduceMul, Nat.reduceSub, reduceCtorEq, frzLoc, rowCells, vAppM, beq_iff_eq, bne_iff_ne, bne_self_eq_false, beq_self_eq_true, beq_true, beq_false, I, B, w, cx_len, cx_app, cx_own0, cx_own, cx_setOwn0, cx_setOwn, cx_take, cx_takeN, Nat.add_right_cancel_iff, Nat.lt_irrefl, cx_nlt, Nat.not_lt_zero, cx_get' h, cx_setId' h, cx_er h, cx_all0 h, cx_all h, CtxOk.lt h, CtxOk.ne0 h, hb2, hb3, hid2])) (by (simp only [go_sem, Nat.max_zero, List.isEmpty_cons, Int.reduceToNat, Nat.reducePow, Int.reduceEq, Int.reduceNe, Int.reduceLT, Int.reduceLE, Nat.reduceAdd, Nat.reduceLeDiff, ↓reduceIte, Nat.reduceLT, Nat.reduceMul, Nat.reduceSub, reduceCtorEq, frzLoc, rowCells, vAppM, beq_iff_eq, bne_iff_ne, bne_self_eq_false, beq_self_eq_true, beq_true, beq_false, I, B, w, cx_len, cx_app, cx_own0, cx_own, cx_setOwn0, cx_setOwn, cx_take, cx_takeN, Nat.add_right_cancel_iff, Nat.lt_irrefl, cx_nlt, Nat.not_lt_zero, cx_get' h, cx_setId' h, cx_er h, cx_all0 h, cx_all h, CtxOk.lt h, CtxOk.ne0 h, hgl, hb2, hb3, hid2])) (vf27L0_go ?_)
        (repeat (first
    | refine RX_seq ?_
    | refine RX_block ?_
    | ((first | refine RX_reg ?_ | refine RX_cond' ?_ | refine RX_draw0 ?_ | refine RX_draw rfl ?_ | refine RX_skip ?_ | refine RX_gfrz ?_ | refine RX_exit ?_ | refine RX_ret ?_); try (simp only [go_sem, Nat.max_zero, List.isEmpty_cons, Int.reduceToNat, Nat.reducePow, Int.reduceEq, Int.reduceNe, Int.reduceLT, Int.reduceLE, Nat.reduceAdd, Nat.reduceLeDiff, ↓reduceIte, Nat.reduceLT, Nat.reduceMul, Nat.reduceSub, reduceCtorEq, frzLoc, rowCells, vAppM, beq_iff_eq, bne_iff_ne, bne_self_eq_false, beq_self_eq_true, beq_true, beq_false, I, B, w, vf27_res, vf27_keep, cx_len, cx_app, cx_own0, cx_own, cx_setOwn0, cx_setOwn, cx_take, cx_takeN, Nat.add_right_cancel_iff, Nat.lt_irrefl, cx_nlt, Nat.not_lt_zero, cx_get' h, cx_setId' h, cx_er h, cx_all0 h, cx_all h, CtxOk.lt h, CtxOk.ne0 h, gt_iff_lt, ge_iff_le, ibeq, hg1, hgc, hgl, c14, c4, c20, c9, c2, c3, c18, c68, c22, m4, m20, m18, ms, hwm, hge, h64g, h64s, h64x, hdr, a1, a2, hid, hb2, hb3, hid2, e75, e70, e77, e85n, e85r, List.length_map, hx]))))
        refine hp _ _ _ _ (.inr ⟨_, ?_, rfl⟩) ⟨rfl, ?_, rfl, rfl, rfl, rfl⟩ (by simp)
        · first | (rw [List.map_append, hr0]; simp [pT_row, nT_row, gNm_row, nmT_row, bxr, Tm.row_mk, gold, silver, exx]; done) | (rw [List.map_append]; simp [pT_row, nT_row, gNm_row, nmT_row, bxr, Tm.row_mk, gold, silver, exx]; done)
        · (simp only [cx_takeN, List.take_succ_cons, List.take_zero] <;> try rfl)
end Go.Proofs.YtknbgkfojmedpaaGreat
namespace Go.Proofs.YtknbgkfojmedpaaGreat
open Go.VM
def pnS (l : List Int) (s : Int) (k : Nat) : List Tm × Nat := drC (paF l s (bxF l s k).1.swap) ((nxV l (bxF l s k).2 6).toNat + 1) (nxA l (bxF l s k).2)
theorem paF_ne (l : List Int) (s : Int) (b : Bx) (k : Nat) : (paF l s b k).1 ≠ [] := by
  unfold paF
  simp only
  repeat' split
  all_goals simp
theorem pnS_ne (l : List Int) (s : Int) (k : Nat) : (pnS l s k).1 ≠ [] := by
  unfold pnS
  rw [drC]
  simp only [ne_eq, List.append_eq_nil_iff, not_and]
  exact fun h => absurd h (paF_ne _ _ _ _)
set_option maxRecDepth 20000 in
set_option maxHeartbeats 8000000 in
theorem e37n {l : List Int} (hB : Bytes l) (s : Int) (hs : s = 0 ∨ s = 1) (x1 x2 x3 x5 x6 x7 x8 x9 x10 x11 x12 x13 x14 x15 x16 x18 : D) (id k : Nat) : ∀ bl, CtxOk bl id →
    CV VP 27 [.ptr id 0, .agg (.d (I s) :: [.d x1, .d x2, .d x3, .d (.sl []), .d x5, .d x6, .d x7, .d x8, .d x9, .d x10, .d x11, .d x12, .d x13, .d x14, .d x15, .d x16, .sl 42 [] .full, .d x18])] (cx bl id l (k : Nat) []) = some ⟨.sl 3 ((pnS l s k).1.map Tm.row) (.own 0 0), cx bl id l ((pnS l s k).2 : Nat) [], [0], 1⟩ := by
  intro bl h
  have hgc : V.erL [.d x1, .d x2, .d x3, .d (.sl []), .d x5, .d x6, .d x7, .d x8, .d x9, .d x10, .d x11, .d x12, .d x13, .d x14, .d x15, .d x16, .sl 42 [] .full, .d x18] = [.d x1, .d x2, .d x3, .d (.sl []), .d x5, .d x6, .d x7, .d x8, .d x9, .d x10, .d x11, .d x12, .d x13, .d x14, .d x15, .d x16, .sl 42 [] .full, .d x18] := by simp [V.erL, V.er, erS]
  have hgl : ∀ n, V.ltbL n [.d x1, .d x2, .d x3, .d (.sl []), .d x5, .d x6, .d x7, .d x8, .d x9, .d x10, .d x11, .d x12, .d x13, .d x14, .d x15, .d x16, .sl 42 [] .full, .d x18] = true := fun n => by simp [V.ltbL, V.ltb]
  have cN : ∀ (n : Int), 0 < n → n ≤ 256 → ∀ (k : Nat) (own : List (List V)), own.map V.erL = own → own.all (V.ltbL (bl.length + own.length)) = true → CV VP 16 [.ptr id 0, .d (I n)] (cx bl id l (k : Nat) own) = some ⟨.d (I (nxV l k n)), cx bl id l (nxA l k : Nat) own, [], 0⟩ := fun n h1 h2 k own => e29 hB h h1 h2
  have c6 := cN 6 (by decide) (by decide)
  have cB : ∀ (own : List (List V)), own.map V.erL = own → own.all (V.ltbL (bl.length + own.length)) = true → CV VP 102 [.ptr id 0, .d (I s)] (cx bl id l (k : Nat) own) = some ⟨(bxF l s k).1.ag, cx bl id l ((bxF l s k).2 : Nat) own, [], 0⟩ := fun own => cx_lift ((bxF_ok hB s (by omega) (by omega) k).2 id) h
  have h51a := e51 (bxF l s k).1
  have r6 := nxV_range hB (k := (bxF l s k).2) (n := 6) (by decide)
  obtain ⟨x, hx⟩ : ∃ x : Nat, nxV l (bxF l s k).2 6 = (x : Int) := ⟨_, (Int.toNat_of_nonneg r6.1).symm⟩
  have hx6 : x < 6 := by omega
  have hid := h.lt
  have hb2 : bl.length < bl.length + 2 := by omega
  have hb3 : bl.length + 1 < bl.length + 2 := by omega
  have hid2 : id < bl.length + 2 := by omega
  have e1x : ((x + 1 : Nat) : Int) - 1 = (x : Int) := by omega
  clear cN r6
  have fin := fun gt hgc hgl bx (Q : VExit → St → Prop) kk st hat hQ => L37 hB s hs gt hgc hgl bx id h (Q := Q) (x + 1) kk [] .nil [] 0 (by omega) (by simp; omega) (.inl ⟨rfl, rfl, rfl⟩) st hat hQ
  have hne := pnS_ne l s k
  simp only [pnS, hx, Int.toNat_natCast] at hne ⊢
  refine CV_run (vf := vf27) rfl rfl ?_
  rw [vf27_start]
  rw [e1x] at fin
  (repeat (first
    | refine RX_seq ?_
    | refine RX_block ?_
    | ((first | refine RX_reg ?_ | refine RX_cond' ?_ | refine RX_draw0 ?_ | refine RX_draw rfl ?_ | refine RX_skip ?_ | refine RX_gfrz ?_ | refine RX_exit ?_ | refine RX_ret ?_); try (simp only [go_sem, Nat.max_zero, List.isEmpty_cons, Int.reduceToNat, Nat.reducePow, Int.reduceEq, Int.reduceNe, Int.reduceLT, Int.reduceLE, Nat.reduceAdd, Nat.reduceLeDiff, ↓reduceIte, Nat.reduceLT, Nat.reduceMul, Nat.reduceSub, reduceCtorEq, frzLoc, rowCells, vAppM, beq_iff_eq, bne_iff_ne, bne_self_eq_false, beq_self_eq_true, beq_true, beq_false, I, B, w, vf27_res, vf27_keep, cx_len, cx_app, cx_own0, cx_own, cx_setOwn0, cx_setOwn, cx_take, cx_takeN, Nat.add_right_cancel_iff, Nat.lt_irrefl, cx_nlt, Nat.not_lt_zero, cx_get' h, cx_setId' h, cx_er h, cx_all0 h, cx_all h, CtxOk.lt h, CtxOk.ne0 h, c6, cB, h51a, hid, hb2, hb3, hid2, hgc, hgl, hx, ibeq, gt_iff_lt]))))
  refine RX_loopN (n := bl.length + 2) (by first | rfl | omega | simp [cx_len]) ?_
  refine fin _ hgc hgl (bxF l s k).1.swap _ _ _ ⟨rfl, by first | rfl | (simp only [cx_takeN, List.take_succ_cons, List.take_zero]; done) | (simp only [cx_takeN, List.take_succ_cons, List.take_zero]; rfl), rfl, rfl, by simp [cx_len], rfl⟩ ?_
  rintro v live gn st hv hat
  rw [List.nil_append] at hv
  have hm1 : ¬ (0 : Int) ≤ -1 := by decide
  rcases hv with ⟨rfl, rfl, hr0⟩ | ⟨g, rfl, rfl⟩
  · exact absurd (List.map_eq_nil_iff.1 hr0) hne
  · refine RL_at hat (by (simp only [go_sem, Nat.max_zero, List.isEmpty_cons, Int.reduceToNat, Nat.reducePow, Int.reduceEq, Int.reduceNe, Int.reduceLT, Int.reduceLE, Nat.reduceAdd, Nat.reduceLeDiff, ↓reduceIte, Nat.reduceLT, Nat.reduceMul, Nat.reduceSub, reduceCtorEq, frzLoc, rowCells, vAppM, beq_iff_eq, bne_iff_ne, bne_self_eq_false, beq_self_eq_true, beq_true, beq_false, I, B, w, cx_len, cx_app, cx_own0, cx_own, cx_setOwn0, cx_setOwn, cx_take, cx_takeN, Nat.add_right_cancel_iff, Nat.lt_irrefl, cx_nlt, Nat.not_lt_zero, cx_get' h, cx_setId' h, cx_er h, cx_all0 h, cx_all h, CtxOk.lt h, CtxOk.ne0 h, hb2, hb3, hid2])) (by (simp only [go_sem, Nat.max_zero, List.isEmpty_cons, Int.reduceToNat, Nat.reducePow, Int.reduceEq, Int.reduceNe, Int.reduceLT, Int.reduceLE, Nat.reduceAdd, Nat.reduceLeDiff, ↓reduceIte, Nat.reduceLT, Nat.reduceMul, Nat.reduceSub, reduceCtorEq, frzLoc, rowCells, vAppM, beq_iff_eq, bne_iff_ne, bne_self_eq_false, beq_self_eq_true, beq_true, beq_false, I, B, w, cx_len, cx_app, cx_own0, cx_own, cx_setOwn0, cx_setOwn, cx_take, cx_takeN, Nat.add_right_cancel_iff, Nat.lt_irrefl, cx_nlt, Nat.not_lt_zero, cx_get' h, cx_setId' h, cx_er h, cx_all0 h, cx_all h, CtxOk.lt h, CtxOk.ne0 h, hb2, hb3, hid2])) (vf27L0_go ?_)
    (repeat (first
    | refine RX_seq ?_
    | refine RX_block ?_
    | ((first | refine RX_reg ?_ | refine RX_cond' ?_ | refine RX_draw0 ?_ | refine RX_draw rfl ?_ | refine RX_skip ?_ | refine RX_gfrz ?_ | refine RX_exit ?_ | refine RX_ret ?_); try (simp only [go_sem, Nat.max_zero, List.isEmpty_cons, Int.reduceToNat, Nat.reducePow, Int.reduceEq, Int.reduceNe, Int.reduceLT, Int.reduceLE, Nat.reduceAdd, Nat.reduceLeDiff, ↓reduceIte, Nat.reduceLT, Nat.reduceMul, Nat.reduceSub, reduceCtorEq, frzLoc, rowCells, vAppM, beq_iff_eq, bne_iff_ne, bne_self_eq_false, beq_self_eq_true, beq_true, beq_false, I, B, w, vf27_res, vf27_keep, cx_len, cx_app, cx_own0, cx_own, cx_setOwn0, cx_setOwn, cx_take, cx_takeN, Nat.add_right_cancel_iff, Nat.lt_irrefl, cx_nlt, Nat.not_lt_zero, cx_get' h, cx_setId' h, cx_er h, cx_all0 h, cx_all h, CtxOk.lt h, CtxOk.ne0 h, hid, hb2, hb3, hid2, hm1, ge_iff_le, List.contains_cons, beq_self_eq_true, Bool.true_or, Bool.true_and]))))
end Go.Proofs.YtknbgkfojmedpaaGreat
namespace Go.Proofs.YtknbgkfojmedpaaGreat
open Go.VM
theorem e38 (n : Int) (ts : List Tm) (hl : ts.length < 1000000) (hs : ∀ t ∈ ts, t.args.length < 1000000) (hop : ∀ t ∈ ts, t.op = 3) :
    CV VP 40 [.d (.sl (ts.map Tm.row)), .d (I n)] [] = some ⟨Tm.findV n ts, [], [], 0⟩ := by
  refine CV_run (vf := vf40) rfl rfl ?_
  rw [vf40_start]
  (repeat (first
    | refine RX_seq ?_
    | refine RX_block ?_
    | ((first | refine RX_reg ?_ | refine RX_cond' ?_ | refine RX_draw0 ?_ | refine RX_draw rfl ?_ | refine RX_skip ?_ | refine RX_gfrz ?_ | refine RX_exit ?_ | refine RX_ret ?_); try (simp only [go_sem, Nat.max_zero, List.isEmpty_cons, Int.reduceToNat, Nat.reducePow, Int.reduceEq, Int.reduceNe, Int.reduceLT, Int.reduceLE, Nat.reduceAdd, Nat.reduceLeDiff, ↓reduceIte, Nat.reduceLT, Nat.reduceMul, Nat.reduceSub, reduceCtorEq, frzLoc, rowCells, vAppM, beq_iff_eq, bne_iff_ne, bne_self_eq_false, beq_self_eq_true, beq_true, beq_false, I, B, w, vf40_res, vf40_keep, List.length_map]))))
  refine RX_loop ?_
  refine RL_ind (fun m st => ∃ (i : Nat), i + m = ts.length ∧ Tm.find n (ts.drop i) = Tm.find n ts ∧
    At vf40K0 0 st ((.d (.sl (ts.map Tm.row)) :: .d (I n) :: .any :: .any :: .any :: .any :: .d (I (i : Nat)) :: .any :: .any :: .any :: .any :: .any :: .any :: .any :: .any :: .any :: .any :: .any :: .any :: .any :: .any :: .any :: .any :: .any :: .any :: .any :: .any :: .any :: .any :: .any :: .any :: .any :: .any :: .any :: .any :: .any :: .any :: .any :: .any :: .any :: .any :: .any :: .any :: .any :: .any :: .any :: .any :: .any :: .any :: [])) [] [] 0 0) ?_ ts.length _ ⟨0, Nat.zero_add _, rfl, rfl, rfl, rfl, rfl, rfl, rfl⟩
  rintro m st ⟨i, hi, hf, hat⟩ ih
  refine RL_at hat rfl rfl (vf40L0_go ?_)
  cases m with
  | zero =>
    have h1 : ¬ i < ts.length := by omega
    rw [List.drop_eq_nil_of_le (by omega)] at hf
    simp only [Tm.findV, ← hf]
    (repeat (first
    | refine RX_seq ?_
    | refine RX_block ?_
    | ((first | refine RX_reg ?_ | refine RX_cond' ?_ | refine RX_draw0 ?_ | refine RX_draw rfl ?_ | refine RX_skip ?_ | refine RX_gfrz ?_ | refine RX_exit ?_ | refine RX_ret ?_); try (simp only [go_sem, Nat.max_zero, List.isEmpty_cons, Int.reduceToNat, Nat.reducePow, Int.reduceEq, Int.reduceNe, Int.reduceLT, Int.reduceLE, Nat.reduceAdd, Nat.reduceLeDiff, ↓reduceIte, Nat.reduceLT, Nat.reduceMul, Nat.reduceSub, reduceCtorEq, frzLoc, rowCells, vAppM, beq_iff_eq, bne_iff_ne, bne_self_eq_false, beq_self_eq_true, beq_true, beq_false, I, B, w, vf40_res, vf40_keep, List.length_map, h1, Tm.find, Option.getD_none, Option.isSome_none]))))
  | succ m =>
    have h1 : i < ts.length := by omega
    obtain ⟨t, ht⟩ : ∃ t, ts[i]? = some t := ⟨_, List.getElem?_eq_getElem h1⟩
    rw [Tm.find_drop ht] at hf
    have hr : (ts.map Tm.row)[i]? = some [I t.op, I t.val, .sl (t.args.map Tm.row)] := by rw [List.getElem?_map, ht, Option.map_some, Tm.row_eq]
    have hm := List.mem_of_getElem? ht
    have hts := hs t hm
    have c1 := hop t hm
    have hwi := w_nat (i := i) (by omega)
    have next := fun (hp : t.isPart n = false) st hat => ih m st (Nat.lt_succ_self m) ⟨i + 1, by omega, by rw [← hf, hp]; rfl, hat⟩
    clear ih
    generalize hcell : t.args = args at *
    have hip : t.isPart n = (t.op == 3 && Tm.isHd n args) := by rw [Tm.isPart, hcell]
    cases args with
    | nil =>
      have hp : t.isPart n = false := by rw [hip, c1]; rfl
      (repeat (first
    | refine RX_seq ?_
    | refine RX_block ?_
    | ((first | refine RX_reg ?_ | refine RX_cond' ?_ | refine RX_draw0 ?_ | refine RX_draw rfl ?_ | refine RX_skip ?_ | refine RX_gfrz ?_ | refine RX_exit ?_ | refine RX_ret ?_); try (simp only [go_sem, Nat.max_zero, List.isEmpty_cons, Int.reduceToNat, Nat.reducePow, Int.reduceEq, Int.reduceNe, Int.reduceLT, Int.reduceLE, Nat.reduceAdd, Nat.reduceLeDiff, ↓reduceIte, Nat.reduceLT, Nat.reduceMul, Nat.reduceSub, reduceCtorEq, frzLoc, rowCells, vAppM, beq_iff_eq, bne_iff_ne, bne_self_eq_false, beq_self_eq_true, beq_true, beq_false, I, B, w, vf40_res, vf40_keep, h1, hr, List.length_map, hwi, gt_iff_lt, Int.lt_irrefl]))))
      exact next hp _ ⟨rfl, rfl, rfl, rfl, rfl, rfl⟩
    | cons u us =>
      by_cases c2 : u.op = 1
      · by_cases c3 : u.val = n
        · have hp : t.isPart n = true := by rw [hip, c1, Tm.isHd, c2, c3]; simp
          rw [hp] at hf
          simp only [if_true, List.tail_cons] at hf
          have hres : Tm.findV n ts = .tup [.d (.sl (us.map Tm.row)), .d (B true)] := by rw [Tm.findV, ← hf]; rfl
          rw [hres]
          have h3 := Tm.rows3 us (by simp only [List.length_cons] at hts; omega)
          have h4 := h3.2
          have h5 : List.take us.length (us.map Tm.row) = us.map Tm.row := List.take_of_length_le (by simp)
          (repeat (first
    | refine RX_seq ?_
    | refine RX_block ?_
    | ((first | refine RX_reg ?_ | refine RX_cond' ?_ | refine RX_draw0 ?_ | refine RX_draw rfl ?_ | refine RX_skip ?_ | refine RX_gfrz ?_ | refine RX_exit ?_ | refine RX_ret ?_); try (simp only [go_sem, Nat.max_zero, List.isEmpty_cons, Int.reduceToNat, Nat.reducePow, Int.reduceEq, Int.reduceNe, Int.reduceLT, Int.reduceLE, Nat.reduceAdd, Nat.reduceLeDiff, ↓reduceIte, Nat.reduceLT, Nat.reduceMul, Nat.reduceSub, reduceCtorEq, frzLoc, rowCells, vAppM, beq_iff_eq, bne_iff_ne, bne_self_eq_false, beq_self_eq_true, beq_true, beq_false, I, B, w, vf40_res, vf40_keep, h1, hr, c2, c3, List.length_map, hwi, gt_iff_lt, Tm.row_eq u, vSlice, vBounds, h4, h5, pos_succ, one_le_succ, ibeq]))))
        · have hp : t.isPart n = false := by rw [hip, Tm.isHd]; simp [c3]
          (repeat (first
    | refine RX_seq ?_
    | refine RX_block ?_
    | ((first | refine RX_reg ?_ | refine RX_cond' ?_ | refine RX_draw0 ?_ | refine RX_draw rfl ?_ | refine RX_skip ?_ | refine RX_gfrz ?_ | refine RX_exit ?_ | refine RX_ret ?_); try (simp only [go_sem, Nat.max_zero, List.isEmpty_cons, Int.reduceToNat, Nat.reducePow, Int.reduceEq, Int.reduceNe, Int.reduceLT, Int.reduceLE, Nat.reduceAdd, Nat.reduceLeDiff, ↓reduceIte, Nat.reduceLT, Nat.reduceMul, Nat.reduceSub, reduceCtorEq, frzLoc, rowCells, vAppM, beq_iff_eq, bne_iff_ne, bne_self_eq_false, beq_self_eq_true, beq_true, beq_false, I, B, w, vf40_res, vf40_keep, h1, hr, c2, c3, List.length_map, hwi, gt_iff_lt, Tm.row_eq u, pos_succ, ibeq]))))
          exact next hp _ ⟨rfl, rfl, rfl, rfl, rfl, rfl⟩
      · have hp : t.isPart n = false := by rw [hip, Tm.isHd]; simp [c2]
        (repeat (first
    | refine RX_seq ?_
    | refine RX_block ?_
    | ((first | refine RX_reg ?_ | refine RX_cond' ?_ | refine RX_draw0 ?_ | refine RX_draw rfl ?_ | refine RX_skip ?_ | refine RX_gfrz ?_ | refine RX_exit ?_ | refine RX_ret ?_); try (simp only [go_sem, Nat.max_zero, List.isEmpty_cons, Int.reduceToNat, Nat.reducePow, Int.reduceEq, Int.reduceNe, Int.reduceLT, Int.reduceLE, Nat.reduceAdd, Nat.reduceLeDiff, ↓reduceIte, Nat.reduceLT, Nat.reduceMul, Nat.reduceSub, reduceCtorEq, frzLoc, rowCells, vAppM, beq_iff_eq, bne_iff_ne, bne_self_eq_false, beq_self_eq_true, beq_true, beq_false, I, B, w, vf40_res, vf40_keep, h1, hr, c2, List.length_map, hwi, gt_iff_lt, Tm.row_eq u, pos_succ, ibeq]))))
        exact next hp _ ⟨rfl, rfl, rfl, rfl, rfl, rfl⟩
def oneT (n : Int) (ps : List Tm) : Tm × Bool := match (Tm.find n ps).getD [] with
  | [t] => (t, true)
  | _ => (.mk 0 0 [], false)
theorem e72o (n : Int) (ps : List Tm) (hl : ps.length < 1000000) (hs : ∀ t ∈ ps, t.args.length < 1000000) :
    CV VP 72 [.d (.sl (ps.map Tm.row)), .d (I n)] [] = some ⟨.tup [(oneT n ps).1.ag, .d (B (oneT n ps).2)], [], [], 0⟩ := by
  have h23 := e23 n ps hl hs
  simp only [Tm.findV] at h23
  unfold oneT
  refine CV_run (vf := vf72) rfl rfl ?_
  rw [vf72_start]
  generalize (Tm.find n ps).isSome = so at *
  generalize (Tm.find n ps).getD [] = r at *
  match r with
  | [] =>
    simp only [List.map_nil] at h23
    (repeat (first
    | refine RX_seq ?_
    | refine RX_block ?_
    | ((first | refine RX_reg ?_ | refine RX_cond' ?_ | refine RX_draw0 ?_ | refine RX_draw rfl ?_ | refine RX_skip ?_ | refine RX_gfrz ?_ | refine RX_exit ?_ | refine RX_ret ?_); try (simp only [go_sem, Nat.max_zero, List.isEmpty_cons, Int.reduceToNat, Nat.reducePow, Int.reduceEq, Int.reduceNe, Int.reduceLT, Int.reduceLE, Nat.reduceAdd, Nat.reduceLeDiff, ↓reduceIte, Nat.reduceLT, Nat.reduceMul, Nat.reduceSub, reduceCtorEq, frzLoc, rowCells, vAppM, beq_iff_eq, bne_iff_ne, bne_self_eq_false, beq_self_eq_true, beq_true, beq_false, I, B, w, vf72_res, vf72_keep, h23, Tm.ag, Tm.op_mk, Tm.val_mk, Tm.args_mk, List.map_nil]))))
  | [t] =>
    simp only [List.map_cons, List.map_nil] at h23
    (repeat (first
    | refine RX_seq ?_
    | refine RX_block ?_
    | ((first | refine RX_reg ?_ | refine RX_cond' ?_ | refine RX_draw0 ?_ | refine RX_draw rfl ?_ | refine RX_skip ?_ | refine RX_gfrz ?_ | refine RX_exit ?_ | refine RX_ret ?_); try (simp only [go_sem, Nat.max_zero, List.isEmpty_cons, Int.reduceToNat, Nat.reducePow, Int.reduceEq, Int.reduceNe, Int.reduceLT, Int.reduceLE, Nat.reduceAdd, Nat.reduceLeDiff, ↓reduceIte, Nat.reduceLT, Nat.reduceMul, Nat.reduceSub, reduceCtorEq, frzLoc, rowCells, vAppM, beq_iff_eq, bne_iff_ne, bne_self_eq_false, beq_self_eq_true, beq_true, beq_false, I, B, w, vf72_res, vf72_keep, h23, Tm.ag, Tm.row_eq, Tm.op_mk, Tm.val_mk, Tm.args_mk, List.map_nil]))))
  | t :: u :: r =>
    simp only [List.map_cons] at h23
    have h1 : ¬ ((r.length + 1 + 1 : Nat) : Int) = 1 := by omega
    (repeat (first
    | refine RX_seq ?_
    | refine RX_block ?_
    | ((first | refine RX_reg ?_ | refine RX_cond' ?_ | refine RX_draw0 ?_ | refine RX_draw rfl ?_ | refine RX_skip ?_ | refine RX_gfrz ?_ | refine RX_exit ?_ | refine RX_ret ?_); try (simp only [go_sem, Nat.max_zero, List.isEmpty_cons, Int.reduceToNat, Nat.reducePow, Int.reduceEq, Int.reduceNe, Int.reduceLT, Int.reduceLE, Nat.reduceAdd, Nat.reduceLeDiff, ↓reduceIte, Nat.reduceLT, Nat.reduceMul, Nat.reduceSub, reduceCtorEq, frzLoc, rowCells, vAppM, beq_iff_eq, bne_iff_ne, bne_self_eq_false, beq_self_eq_true, beq_true, beq_false, I, B, w, vf72_res, vf72_keep, h23, h1, Tm.ag, List.length_map, Tm.op_mk, Tm.val_mk, Tm.args_mk, List.map_nil]))))
theorem e73o (ps : List Tm) (hl : ps.length < 1000000) (hs : ∀ t ∈ ps, t.args.length < 1000000) :
    CV VP 73 [.d (.sl (ps.map Tm.row))] [] = some ⟨.tup [(oneT 3 ps).1.ag, .d (B ((oneT 3 ps).2 && (oneT 3 ps).1.op == 2))], [], [], 0⟩ := by
  have h72 := e72o 3 ps hl hs
  refine CV_run (vf := vf73) rfl rfl ?_
  rw [vf73_start]
  generalize oneT 3 ps = p at *
  obtain ⟨⟨o, v, a⟩, b⟩ := p
  cases b <;> simp only [Tm.ag, Tm.op_mk, Tm.val_mk, Tm.args_mk, Bool.false_and, Bool.true_and] at h72 ⊢
  · (repeat (first
    | refine RX_seq ?_
    | refine RX_block ?_
    | ((first | refine RX_reg ?_ | refine RX_cond' ?_ | refine RX_draw0 ?_ | refine RX_draw rfl ?_ | refine RX_skip ?_ | refine RX_gfrz ?_ | refine RX_exit ?_ | refine RX_ret ?_); try (simp only [go_sem, Nat.max_zero, List.isEmpty_cons, Int.reduceToNat, Nat.reducePow, Int.reduceEq, Int.reduceNe, Int.reduceLT, Int.reduceLE, Nat.reduceAdd, Nat.reduceLeDiff, ↓reduceIte, Nat.reduceLT, Nat.reduceMul, Nat.reduceSub, reduceCtorEq, frzLoc, rowCells, vAppM, beq_iff_eq, bne_iff_ne, bne_self_eq_false, beq_self_eq_true, beq_true, beq_false, I, B, w, vf73_res, vf73_keep, h72]))))
  · (repeat (first
    | refine RX_seq ?_
    | refine RX_block ?_
    | ((first | refine RX_reg ?_ | refine RX_cond' ?_ | refine RX_draw0 ?_ | refine RX_draw rfl ?_ | refine RX_skip ?_ | refine RX_gfrz ?_ | refine RX_exit ?_ | refine RX_ret ?_); try (simp only [go_sem, Nat.max_zero, List.isEmpty_cons, Int.reduceToNat, Nat.reducePow, Int.reduceEq, Int.reduceNe, Int.reduceLT, Int.reduceLE, Nat.reduceAdd, Nat.reduceLeDiff, ↓reduceIte, Nat.reduceLT, Nat.reduceMul, Nat.reduceSub, reduceCtorEq, frzLoc, rowCells, vAppM, beq_iff_eq, bne_iff_ne, bne_self_eq_false, beq_self_eq_true, beq_true, beq_false, I, B, w, vf73_res, vf73_keep, h72, ibeq]))))
def onlyT (n op : Int) (ps : List Tm) : Tm × Bool := match Tm.find n ps with
  | some [t] => if op ≠ 0 ∧ t.op ≠ op then (.mk 0 0 [], false) else (t, true)
  | _ => (.mk 0 0 [], false)
theorem e87o (n op : Int) (ps : List Tm) (hl : ps.length < 1000000) (hs : ∀ t ∈ ps, t.args.length < 1000000) (hop : ∀ t ∈ ps, t.op = 3) :
    CV VP 87 [.d (.sl (ps.map Tm.row)), .d (I n), .d (I op)] [] = some ⟨.tup [(onlyT n op ps).1.ag, .d (B (onlyT n op ps).2)], [], [], 0⟩ := by
  have h38 := e38 n ps hl hs hop
  simp only [Tm.findV] at h38
  unfold onlyT
  refine CV_run (vf := vf87) rfl rfl ?_
  rw [vf87_start]
  generalize Tm.find n ps = r at *
  match r with
  | none =>
    simp only [Option.getD_none, Option.isSome_none, List.map_nil] at h38
    (repeat (first
    | refine RX_seq ?_
    | refine RX_block ?_
    | ((first | refine RX_reg ?_ | refine RX_cond' ?_ | refine RX_draw0 ?_ | refine RX_draw rfl ?_ | refine RX_skip ?_ | refine RX_gfrz ?_ | refine RX_exit ?_ | refine RX_ret ?_); try (simp only [go_sem, Nat.max_zero, List.isEmpty_cons, Int.reduceToNat, Nat.reducePow, Int.reduceEq, Int.reduceNe, Int.reduceLT, Int.reduceLE, Nat.reduceAdd, Nat.reduceLeDiff, ↓reduceIte, Nat.reduceLT, Nat.reduceMul, Nat.reduceSub, reduceCtorEq, frzLoc, rowCells, vAppM, beq_iff_eq, bne_iff_ne, bne_self_eq_false, beq_self_eq_true, beq_true, beq_false, I, B, w, vf87_res, vf87_keep, h38, Tm.ag, Tm.op_mk, Tm.val_mk, Tm.args_mk, List.map_nil]))))
  | some [] =>
    simp only [Option.getD_some, Option.isSome_some, List.map_nil] at h38
    (repeat (first
    | refine RX_seq ?_
    | refine RX_block ?_
    | ((first | refine RX_reg ?_ | refine RX_cond' ?_ | refine RX_draw0 ?_ | refine RX_draw rfl ?_ | refine RX_skip ?_ | refine RX_gfrz ?_ | refine RX_exit ?_ | refine RX_ret ?_); try (simp only [go_sem, Nat.max_zero, List.isEmpty_cons, Int.reduceToNat, Nat.reducePow, Int.reduceEq, Int.reduceNe, Int.reduceLT, Int.reduceLE, Nat.reduceAdd, Nat.reduceLeDiff, ↓reduceIte, Nat.reduceLT, Nat.reduceMul, Nat.reduceSub, reduceCtorEq, frzLoc, rowCells, vAppM, beq_iff_eq, bne_iff_ne, bne_self_eq_false, beq_self_eq_true, beq_true, beq_false, I, B, w, vf87_res, vf87_keep, h38, Tm.ag, Tm.op_mk, Tm.val_mk, Tm.args_mk, List.map_nil]))))
  | some [.mk o v a] =>
    simp only [Option.getD_some, Option.isSome_some, List.map_cons, List.map_nil, Tm.row_mk] at h38
    by_cases h0 : op = 0
    · subst h0
      (repeat (first
    | refine RX_seq ?_
    | refine RX_block ?_
    | ((first | refine RX_reg ?_ | refine RX_cond' ?_ | refine RX_draw0 ?_ | refine RX_draw rfl ?_ | refine RX_skip ?_ | refine RX_gfrz ?_ | refine RX_exit ?_ | refine RX_ret ?_); try (simp only [go_sem, Nat.max_zero, List.isEmpty_cons, Int.reduceToNat, Nat.reducePow, Int.reduceEq, Int.reduceNe, Int.reduceLT, Int.reduceLE, Nat.reduceAdd, Nat.reduceLeDiff, ↓reduceIte, Nat.reduceLT, Nat.reduceMul, Nat.reduceSub, reduceCtorEq, frzLoc, rowCells, vAppM, beq_iff_eq, bne_iff_ne, bne_self_eq_false, beq_self_eq_true, beq_true, beq_false, I, B, w, vf87_res, vf87_keep, h38, ibne, ne_eq, not_true_eq_false, false_and, if_false, Tm.ag, Tm.op_mk, Tm.val_mk, Tm.args_mk, List.map_nil]))))
    · by_cases h1 : o = op
      · (repeat (first
    | refine RX_seq ?_
    | refine RX_block ?_
    | ((first | refine RX_reg ?_ | refine RX_cond' ?_ | refine RX_draw0 ?_ | refine RX_draw rfl ?_ | refine RX_skip ?_ | refine RX_gfrz ?_ | refine RX_exit ?_ | refine RX_ret ?_); try (simp only [go_sem, Nat.max_zero, List.isEmpty_cons, Int.reduceToNat, Nat.reducePow, Int.reduceEq, Int.reduceNe, Int.reduceLT, Int.reduceLE, Nat.reduceAdd, Nat.reduceLeDiff, ↓reduceIte, Nat.reduceLT, Nat.reduceMul, Nat.reduceSub, reduceCtorEq, frzLoc, rowCells, vAppM, beq_iff_eq, bne_iff_ne, bne_self_eq_false, beq_self_eq_true, beq_true, beq_false, I, B, w, vf87_res, vf87_keep, h38, ibne, h0, h1, ne_eq, not_true_eq_false, not_false_eq_true, and_false, true_and, if_false, Tm.ag, Tm.op_mk, Tm.val_mk, Tm.args_mk, List.map_nil, decide_not]))))
      · (repeat (first
    | refine RX_seq ?_
    | refine RX_block ?_
    | ((first | refine RX_reg ?_ | refine RX_cond' ?_ | refine RX_draw0 ?_ | refine RX_draw rfl ?_ | refine RX_skip ?_ | refine RX_gfrz ?_ | refine RX_exit ?_ | refine RX_ret ?_); try (simp only [go_sem, Nat.max_zero, List.isEmpty_cons, Int.reduceToNat, Nat.reducePow, Int.reduceEq, Int.reduceNe, Int.reduceLT, Int.reduceLE, Nat.reduceAdd, Nat.reduceLeDiff, ↓reduceIte, Nat.reduceLT, Nat.reduceMul, Nat.reduceSub, reduceCtorEq, frzLoc, rowCells, vAppM, beq_iff_eq, bne_iff_ne, bne_self_eq_false, beq_self_eq_true, beq_true, beq_false, I, B, w, vf87_res, vf87_keep, h38, ibne, h0, h1, ne_eq, not_true_eq_false, not_false_eq_true, and_self, if_true, Tm.ag, Tm.op_mk, Tm.val_mk, Tm.args_mk, List.map_nil, decide_not]))))
  | some (t :: u :: r) =>
    simp only [Option.getD_some, Option.isSome_some, List.map_cons] at h38
    have h1 : ¬ ((r.length + 1 + 1 : Nat) : Int) = 1 := by omega
    (repeat (first
    | refine RX_seq ?_
    | refine RX_block ?_
    | ((first | refine RX_reg ?_ | refine RX_cond' ?_ | refine RX_draw0 ?_ | refine RX_draw rfl ?_ | refine RX_skip ?_ | refine RX_gfrz ?_ | refine RX_exit ?_ | refine RX_ret ?_); try (simp only [go_sem, Nat.max_zero, List.isEmpty_cons, Int.reduceToNat, Nat.reducePow, Int.reduceEq, Int.reduceNe, Int.reduceLT, Int.reduceLE, Nat.reduceAdd, Nat.reduceLeDiff, ↓reduceIte, Nat.reduceLT, Nat.reduceMul, Nat.reduceSub, reduceCtorEq, frzLoc, rowCells, vAppM, beq_iff_eq, bne_iff_ne, bne_self_eq_false, beq_self_eq_true, beq_true, beq_false, I, B, w, vf87_res, vf87_keep, h38, h1, ibne, Tm.ag, List.length_map, Tm.op_mk, Tm.val_mk, Tm.args_mk, List.map_nil, decide_not]))))
end Go.Proofs.YtknbgkfojmedpaaGreat
namespace Go.Proofs.YtknbgkfojmedpaaGreat
open Go.VM
theorem e168 (n : Int) {rows : List (List D)} (h : Rows3 rows) : CV VP 168 [.d (I n), .d (.sl rows)] [] = some ⟨.agg [.d (I 6), .d (I n), .d (.sl rows)], [], [], 0⟩ := by
  refine CV_run (vf := vf168) rfl rfl ?_
  rw [vf168_start]
  (repeat (first
    | refine RX_seq ?_
    | refine RX_block ?_
    | ((first | refine RX_reg ?_ | refine RX_cond' ?_ | refine RX_draw0 ?_ | refine RX_draw rfl ?_ | refine RX_skip ?_ | refine RX_gfrz ?_ | refine RX_exit ?_ | refine RX_ret ?_); try (simp only [go_sem, Nat.max_zero, List.isEmpty_cons, Int.reduceToNat, Nat.reducePow, Int.reduceEq, Int.reduceNe, Int.reduceLT, Int.reduceLE, Nat.reduceAdd, Nat.reduceLeDiff, ↓reduceIte, Nat.reduceLT, Nat.reduceMul, Nat.reduceSub, reduceCtorEq, frzLoc, rowCells, vAppM, beq_iff_eq, bne_iff_ne, bne_self_eq_false, beq_self_eq_true, beq_true, beq_false, I, B, w, vf168_res, vf168_keep, h.1, h.2, e103 h]))))
theorem n02 : ((0 : Int) == 2) = false := rfl
theorem n12 : ((1 : Int) == 2) = false := rfl
theorem n22 : ((2 : Int) == 2) = true := rfl
theorem r3two (a b c x y z : D) : Rows3 [[a, b, c], [x, y, z]] := by
  constructor <;> simp
def natT (a b : Int) : Tm := .mk 6 8 [nT a, nT b]
def behT (a b : Int) (ps : List Tm) : Bool := match Tm.find 7 ps with
  | some [_, u] => !(u.eqb (natT a b))
  | _ => false
theorem e169 (a b : Int) : CV VP 169 [.d (I a), .d (I b)] [] = some ⟨(natT a b).ag, [], [], 0⟩ := by
  refine CV_run (vf := vf169) rfl rfl ?_
  rw [vf169_start]
  have hr := e168 8 (r3two (I 1) (I a) (.sl []) (I 1) (I b) (.sl []))
  (repeat (first
    | refine RX_seq ?_
    | refine RX_block ?_
    | ((first | refine RX_reg ?_ | refine RX_cond' ?_ | refine RX_draw0 ?_ | refine RX_draw rfl ?_ | refine RX_skip ?_ | refine RX_gfrz ?_ | refine RX_exit ?_ | refine RX_ret ?_); try (simp only [go_sem, Nat.max_zero, List.isEmpty_cons, Int.reduceToNat, Nat.reducePow, Int.reduceEq, Int.reduceNe, Int.reduceLT, Int.reduceLE, Nat.reduceAdd, Nat.reduceLeDiff, ↓reduceIte, Nat.reduceLT, Nat.reduceMul, Nat.reduceSub, reduceCtorEq, frzLoc, rowCells, vAppM, beq_iff_eq, bne_iff_ne, bne_self_eq_false, beq_self_eq_true, beq_true, beq_false, I, B, w, vf169_res, vf169_keep, e72, hr, natT, nT, Tm.ag, Tm.row_mk, Tm.op_mk, Tm.val_mk, Tm.args_mk, List.map_cons, List.map_nil]))))
theorem e161 (a b : Int) : CV VP 161 [.d (I a), .d (I b)] [] = some ⟨(natT a b).ag, [], [], 0⟩ := by
  refine CV_run (vf := vf161) rfl rfl ?_
  rw [vf161_start]
  have hr := e79 8 (r3two (I 1) (I a) (.sl []) (I 1) (I b) (.sl []))
  (repeat (first
    | refine RX_seq ?_
    | refine RX_block ?_
    | ((first | refine RX_reg ?_ | refine RX_cond' ?_ | refine RX_draw0 ?_ | refine RX_draw rfl ?_ | refine RX_skip ?_ | refine RX_gfrz ?_ | refine RX_exit ?_ | refine RX_ret ?_); try (simp only [go_sem, Nat.max_zero, List.isEmpty_cons, Int.reduceToNat, Nat.reducePow, Int.reduceEq, Int.reduceNe, Int.reduceLT, Int.reduceLE, Nat.reduceAdd, Nat.reduceLeDiff, ↓reduceIte, Nat.reduceLT, Nat.reduceMul, Nat.reduceSub, reduceCtorEq, frzLoc, rowCells, vAppM, beq_iff_eq, bne_iff_ne, bne_self_eq_false, beq_self_eq_true, beq_true, beq_false, I, B, w, vf161_res, vf161_keep, e75, hr, natT, nT, Tm.ag, Tm.row_mk, Tm.op_mk, Tm.val_mk, Tm.args_mk, List.map_cons, List.map_nil]))))
theorem e86o (a b : Int) (ps : List Tm) (hl : ps.length < 1000000) (hs : ∀ t ∈ ps, t.args.length < 1000000) (hsm : ∀ t ∈ (Tm.find 7 ps).getD [], t.small) :
    CV VP 86 [.d (.sl (ps.map Tm.row)), .d (I a), .d (I b)] [] = some ⟨.d (B (behT a b ps)), [], [], 0⟩ := by
  have h23 := e23 7 ps hl hs
  simp only [Tm.findV] at h23
  have h9 := e169 a b
  unfold behT
  refine CV_run (vf := vf86) rfl rfl ?_
  rw [vf86_start]
  generalize Tm.find 7 ps = r at *
  match r with
  | none =>
    simp only [Option.getD_none, Option.isSome_none, List.map_nil] at h23
    (repeat (first
    | refine RX_seq ?_
    | refine RX_block ?_
    | ((first | refine RX_reg ?_ | refine RX_cond' ?_ | refine RX_draw0 ?_ | refine RX_draw rfl ?_ | refine RX_skip ?_ | refine RX_gfrz ?_ | refine RX_exit ?_ | refine RX_ret ?_); try (simp only [go_sem, Nat.max_zero, List.isEmpty_cons, Int.reduceToNat, Nat.reducePow, Int.reduceEq, Int.reduceNe, Int.reduceLT, Int.reduceLE, Nat.reduceAdd, Nat.reduceLeDiff, ↓reduceIte, Nat.reduceLT, Nat.reduceMul, Nat.reduceSub, reduceCtorEq, frzLoc, rowCells, vAppM, beq_iff_eq, bne_iff_ne, bne_self_eq_false, beq_self_eq_true, beq_true, beq_false, I, B, w, vf86_res, vf86_keep, n02, n12, n22, h23]))))
  | some [] =>
    simp only [Option.getD_some, Option.isSome_some, List.map_nil] at h23
    (repeat (first
    | refine RX_seq ?_
    | refine RX_block ?_
    | ((first | refine RX_reg ?_ | refine RX_cond' ?_ | refine RX_draw0 ?_ | refine RX_draw rfl ?_ | refine RX_skip ?_ | refine RX_gfrz ?_ | refine RX_exit ?_ | refine RX_ret ?_); try (simp only [go_sem, Nat.max_zero, List.isEmpty_cons, Int.reduceToNat, Nat.reducePow, Int.reduceEq, Int.reduceNe, Int.reduceLT, Int.reduceLE, Nat.reduceAdd, Nat.reduceLeDiff, ↓reduceIte, Nat.reduceLT, Nat.reduceMul, Nat.reduceSub, reduceCtorEq, frzLoc, rowCells, vAppM, beq_iff_eq, bne_iff_ne, bne_self_eq_false, beq_self_eq_true, beq_true, beq_false, I, B, w, vf86_res, vf86_keep, n02, n12, n22, h23]))))
  | some [t] =>
    simp only [Option.getD_some, Option.isSome_some, List.map_cons, List.map_nil] at h23
    (repeat (first
    | refine RX_seq ?_
    | refine RX_block ?_
    | ((first | refine RX_reg ?_ | refine RX_cond' ?_ | refine RX_draw0 ?_ | refine RX_draw rfl ?_ | refine RX_skip ?_ | refine RX_gfrz ?_ | refine RX_exit ?_ | refine RX_ret ?_); try (simp only [go_sem, Nat.max_zero, List.isEmpty_cons, Int.reduceToNat, Nat.reducePow, Int.reduceEq, Int.reduceNe, Int.reduceLT, Int.reduceLE, Nat.reduceAdd, Nat.reduceLeDiff, ↓reduceIte, Nat.reduceLT, Nat.reduceMul, Nat.reduceSub, reduceCtorEq, frzLoc, rowCells, vAppM, beq_iff_eq, bne_iff_ne, bne_self_eq_false, beq_self_eq_true, beq_true, beq_false, I, B, w, vf86_res, vf86_keep, n02, n12, n22, h23]))))
  | some [t, u] =>
    have h99 := e99 u (natT a b) (hsm u (by simp))
    simp only [Option.getD_some, Option.isSome_some, List.map_cons, List.map_nil] at h23
    obtain ⟨o, v, x⟩ := u
    simp only [Tm.ag, Tm.row_mk, Tm.op_mk, Tm.val_mk, Tm.args_mk] at h23 h99 h9
    (repeat (first
    | refine RX_seq ?_
    | refine RX_block ?_
    | ((first | refine RX_reg ?_ | refine RX_cond' ?_ | refine RX_draw0 ?_ | refine RX_draw rfl ?_ | refine RX_skip ?_ | refine RX_gfrz ?_ | refine RX_exit ?_ | refine RX_ret ?_); try (simp only [go_sem, Nat.max_zero, List.isEmpty_cons, Int.reduceToNat, Nat.reducePow, Int.reduceEq, Int.reduceNe, Int.reduceLT, Int.reduceLE, Nat.reduceAdd, Nat.reduceLeDiff, ↓reduceIte, Nat.reduceLT, Nat.reduceMul, Nat.reduceSub, reduceCtorEq, frzLoc, rowCells, vAppM, beq_iff_eq, bne_iff_ne, bne_self_eq_false, beq_self_eq_true, beq_true, beq_false, I, B, w, vf86_res, vf86_keep, n02, n12, n22, h23, h99, h9]))))
  | some (t :: u :: s :: r) =>
    simp only [Option.getD_some, Option.isSome_some, List.map_cons] at h23
    have h1 : ¬ ((r.length + 1 + 1 + 1 : Nat) : Int) = 2 := by omega
    (repeat (first
    | refine RX_seq ?_
    | refine RX_block ?_
    | ((first | refine RX_reg ?_ | refine RX_cond' ?_ | refine RX_draw0 ?_ | refine RX_draw rfl ?_ | refine RX_skip ?_ | refine RX_gfrz ?_ | refine RX_exit ?_ | refine RX_ret ?_); try (simp only [go_sem, Nat.max_zero, List.isEmpty_cons, Int.reduceToNat, Nat.reducePow, Int.reduceEq, Int.reduceNe, Int.reduceLT, Int.reduceLE, Nat.reduceAdd, Nat.reduceLeDiff, ↓reduceIte, Nat.reduceLT, Nat.reduceMul, Nat.reduceSub, reduceCtorEq, frzLoc, rowCells, vAppM, beq_iff_eq, bne_iff_ne, bne_self_eq_false, beq_self_eq_true, beq_true, beq_false, I, B, w, vf86_res, vf86_keep, n02, n12, n22, h23, h1, ibeq, List.length_map]))))
theorem e95o (a b : Int) (ps : List Tm) (hl : ps.length < 1000000) (hs : ∀ t ∈ ps, t.args.length < 1000000) (hop : ∀ t ∈ ps, t.op = 3) (hsm : ∀ t ∈ (Tm.find 7 ps).getD [], t.small) :
    CV VP 95 [.d (.sl (ps.map Tm.row)), .d (I a), .d (I b)] [] = some ⟨.d (B (behT a b ps)), [], [], 0⟩ := by
  have h23 := e38 7 ps hl hs hop
  simp only [Tm.findV] at h23
  have h9 := e161 a b
  unfold behT
  refine CV_run (vf := vf95) rfl rfl ?_
  rw [vf95_start]
  generalize Tm.find 7 ps = r at *
  match r with
  | none =>
    simp only [Option.getD_none, Option.isSome_none, List.map_nil] at h23
    (repeat (first
    | refine RX_seq ?_
    | refine RX_block ?_
    | ((first | refine RX_reg ?_ | refine RX_cond' ?_ | refine RX_draw0 ?_ | refine RX_draw rfl ?_ | refine RX_skip ?_ | refine RX_gfrz ?_ | refine RX_exit ?_ | refine RX_ret ?_); try (simp only [go_sem, Nat.max_zero, List.isEmpty_cons, Int.reduceToNat, Nat.reducePow, Int.reduceEq, Int.reduceNe, Int.reduceLT, Int.reduceLE, Nat.reduceAdd, Nat.reduceLeDiff, ↓reduceIte, Nat.reduceLT, Nat.reduceMul, Nat.reduceSub, reduceCtorEq, frzLoc, rowCells, vAppM, beq_iff_eq, bne_iff_ne, bne_self_eq_false, beq_self_eq_true, beq_true, beq_false, I, B, w, vf95_res, vf95_keep, n02, n12, n22, h23]))))
  | some [] =>
    simp only [Option.getD_some, Option.isSome_some, List.map_nil] at h23
    (repeat (first
    | refine RX_seq ?_
    | refine RX_block ?_
    | ((first | refine RX_reg ?_ | refine RX_cond' ?_ | refine RX_draw0 ?_ | refine RX_draw rfl ?_ | refine RX_skip ?_ | refine RX_gfrz ?_ | refine RX_exit ?_ | refine RX_ret ?_); try (simp only [go_sem, Nat.max_zero, List.isEmpty_cons, Int.reduceToNat, Nat.reducePow, Int.reduceEq, Int.reduceNe, Int.reduceLT, Int.reduceLE, Nat.reduceAdd, Nat.reduceLeDiff, ↓reduceIte, Nat.reduceLT, Nat.reduceMul, Nat.reduceSub, reduceCtorEq, frzLoc, rowCells, vAppM, beq_iff_eq, bne_iff_ne, bne_self_eq_false, beq_self_eq_true, beq_true, beq_false, I, B, w, vf95_res, vf95_keep, n02, n12, n22, h23]))))
  | some [t] =>
    simp only [Option.getD_some, Option.isSome_some, List.map_cons, List.map_nil] at h23
    (repeat (first
    | refine RX_seq ?_
    | refine RX_block ?_
    | ((first | refine RX_reg ?_ | refine RX_cond' ?_ | refine RX_draw0 ?_ | refine RX_draw rfl ?_ | refine RX_skip ?_ | refine RX_gfrz ?_ | refine RX_exit ?_ | refine RX_ret ?_); try (simp only [go_sem, Nat.max_zero, List.isEmpty_cons, Int.reduceToNat, Nat.reducePow, Int.reduceEq, Int.reduceNe, Int.reduceLT, Int.reduceLE, Nat.reduceAdd, Nat.reduceLeDiff, ↓reduceIte, Nat.reduceLT, Nat.reduceMul, Nat.reduceSub, reduceCtorEq, frzLoc, rowCells, vAppM, beq_iff_eq, bne_iff_ne, bne_self_eq_false, beq_self_eq_true, beq_true, beq_false, I, B, w, vf95_res, vf95_keep, n02, n12, n22, h23]))))
  | some [t, u] =>
    have h99 := e19 _ u (natT a b) (Nat.lt_succ_self _) (hsm u (by simp))
    simp only [Option.getD_some, Option.isSome_some, List.map_cons, List.map_nil] at h23
    obtain ⟨o, v, x⟩ := u
    simp only [natT, nT, Tm.ag, Tm.row_mk, Tm.op_mk, Tm.val_mk, Tm.args_mk, List.map_cons, List.map_nil] at h23 h99 h9 ⊢
    (repeat (first
    | refine RX_seq ?_
    | refine RX_block ?_
    | ((first | refine RX_reg ?_ | refine RX_cond' ?_ | refine RX_draw0 ?_ | refine RX_draw rfl ?_ | refine RX_skip ?_ | refine RX_gfrz ?_ | refine RX_exit ?_ | refine RX_ret ?_); try (simp only [go_sem, Nat.max_zero, List.isEmpty_cons, Int.reduceToNat, Nat.reducePow, Int.reduceEq, Int.reduceNe, Int.reduceLT, Int.reduceLE, Nat.reduceAdd, Nat.reduceLeDiff, ↓reduceIte, Nat.reduceLT, Nat.reduceMul, Nat.reduceSub, reduceCtorEq, frzLoc, rowCells, vAppM, beq_iff_eq, bne_iff_ne, bne_self_eq_false, beq_self_eq_true, beq_true, beq_false, I, B, w, vf95_res, vf95_keep, n02, n12, n22, h23, h99, h9]))))
  | some (t :: u :: s :: r) =>
    simp only [Option.getD_some, Option.isSome_some, List.map_cons] at h23
    have h1 : ¬ ((r.length + 1 + 1 + 1 : Nat) : Int) = 2 := by omega
    (repeat (first
    | refine RX_seq ?_
    | refine RX_block ?_
    | ((first | refine RX_reg ?_ | refine RX_cond' ?_ | refine RX_draw0 ?_ | refine RX_draw rfl ?_ | refine RX_skip ?_ | refine RX_gfrz ?_ | refine RX_exit ?_ | refine RX_ret ?_); try (simp only [go_sem, Nat.max_zero, List.isEmpty_cons, Int.reduceToNat, Nat.reducePow, Int.reduceEq, Int.reduceNe, Int.reduceLT, Int.reduceLE, Nat.reduceAdd, Nat.reduceLeDiff, ↓reduceIte, Nat.reduceLT, Nat.reduceMul, Nat.reduceSub, reduceCtorEq, frzLoc, rowCells, vAppM, beq_iff_eq, bne_iff_ne, bne_self_eq_false, beq_self_eq_true, beq_true, beq_false, I, B, w, vf95_res, vf95_keep, n02, n12, n22, h23, h1, ibeq, List.length_map]))))
end Go.Proofs.YtknbgkfojmedpaaGreat
namespace Go.Proofs.YtknbgkfojmedpaaGreat
open Go.VM
theorem e164 (n : Nat) {r0 r1 r2 : List D} {o v : Int} {x : D} (h3 : n < 3) (hr : [r0, r1, r2][n]? = some [I o, I v, x]) (ok : Bool) (id : Nat) : ∀ bl, CtxOk bl id →
    CV VP 164 [.ptr id 0, .d (I (n : Nat))] (gx bl id [.d (.sl [r0, r1, r2]), .d (B ok)] []) = some ⟨.d (I (if o = 1 then v else 0)), gx bl id [.d (.sl [r0, r1, r2]), .d (B (ok && decide (o = 1)))] [], [], 0⟩ := by
  intro bl h
  have hid := h.lt
  have h1 : ¬ (3 : Int) ≤ (n : Int) := by omega
  have h4 : (n : Int) < 3 := by omega
  refine CV_run (vf := vf164) rfl rfl ?_
  rw [vf164_start]
  by_cases ho : o = 1
  · simp only [ho, if_true, decide_true, Bool.and_true]
    (repeat (first
    | refine RX_seq ?_
    | refine RX_block ?_
    | ((first | refine RX_reg ?_ | refine RX_cond' ?_ | refine RX_draw0 ?_ | refine RX_draw rfl ?_ | refine RX_skip ?_ | refine RX_gfrz ?_ | refine RX_exit ?_ | refine RX_ret ?_); try (simp only [go_sem, Nat.max_zero, List.isEmpty_cons, Int.reduceToNat, Nat.reducePow, Int.reduceEq, Int.reduceNe, Int.reduceLT, Int.reduceLE, Nat.reduceAdd, Nat.reduceLeDiff, ↓reduceIte, Nat.reduceLT, Nat.reduceMul, Nat.reduceSub, reduceCtorEq, frzLoc, rowCells, vAppM, beq_iff_eq, bne_iff_ne, bne_self_eq_false, beq_self_eq_true, beq_true, beq_false, I, B, w, vf164_res, vf164_keep, gx_len, gx_app, gx_get h, gx_own0, gx_own, gx_set h, gx_setOwn0, gx_setOwn, gx_er h, gx_take, gx_all0 h, gx_all h, CtxOk.ne0 h, ge_iff_le, hid, h1, h3, h4, hr, ho, ibne, Nat.add_right_cancel_iff, Nat.lt_irrefl, cx_nlt, Nat.not_lt_zero, Nat.ne_of_lt hid, Nat.le_add_right]))))
    done
  · simp only [ho, if_false, decide_false, Bool.and_false]
    (repeat (first
    | refine RX_seq ?_
    | refine RX_block ?_
    | ((first | refine RX_reg ?_ | refine RX_cond' ?_ | refine RX_draw0 ?_ | refine RX_draw rfl ?_ | refine RX_skip ?_ | refine RX_gfrz ?_ | refine RX_exit ?_ | refine RX_ret ?_); try (simp only [go_sem, Nat.max_zero, List.isEmpty_cons, Int.reduceToNat, Nat.reducePow, Int.reduceEq, Int.reduceNe, Int.reduceLT, Int.reduceLE, Nat.reduceAdd, Nat.reduceLeDiff, ↓reduceIte, Nat.reduceLT, Nat.reduceMul, Nat.reduceSub, reduceCtorEq, frzLoc, rowCells, vAppM, beq_iff_eq, bne_iff_ne, bne_self_eq_false, beq_self_eq_true, beq_true, beq_false, I, B, w, vf164_res, vf164_keep, gx_len, gx_app, gx_get h, gx_own0, gx_own, gx_set h, gx_setOwn0, gx_setOwn, gx_er h, gx_take, gx_all0 h, gx_all h, CtxOk.ne0 h, ge_iff_le, hid, h1, h3, h4, hr, ho, ibne, decide_not, Nat.add_right_cancel_iff, Nat.lt_irrefl, cx_nlt, Nat.not_lt_zero, Nat.ne_of_lt hid, Nat.le_add_right]))))
    done
def openT (peer now : Int) (vault t : Tm) : Tm × Bool := match Tm.unseal vault t with
  | some (.mk 3 _ [x, p, u]) => if p.op = 1 ∧ u.op = 1 ∧ p.val = peer ∧ now ≤ u.val then (x, true) else (.mk 0 0 [], false)
  | _ => (.mk 0 0 [], false)
theorem openT_none {peer now : Int} {vt t : Tm} (h : Tm.unseal vt t = none) : openT peer now vt t = (.mk 0 0 [], false) := by unfold openT; rw [h]
theorem openT_bad {peer now : Int} {vt t : Tm} {o v : Int} {l : List Tm} (h : Tm.unseal vt t = some (.mk o v l)) (hb : ¬ (o = 3 ∧ l.length = 3)) : openT peer now vt t = (.mk 0 0 [], false) := by
  unfold openT
  rw [h]
  split
  · rename_i h1
    simp only [Option.some.injEq, Tm.mk.injEq] at h1
    obtain ⟨rfl, rfl, rfl⟩ := h1
    exact absurd ⟨rfl, rfl⟩ hb
  · rfl
theorem list3 {α : Type} : ∀ (l : List α), l.length = 3 → ∃ x0 x1 x2, l = [x0, x1, x2]
  | [x0, x1, x2], _ => ⟨x0, x1, x2, rfl⟩
theorem ctx5 (a0 : D) (b0 : List D) (a1 : D) (b1 : List D) (a3 : D) (b3 : List D) : CtxOk [(a0 :: b0).map .d, (a1 :: b1).map .d, [.d (I 0), .d (I 0), .d (.sl [])], (a3 :: b3).map .d, []] 4 :=
  .of (by simp) (by simp [erL_d, V.erL, V.er]) (by simp [ltbL_d, V.ltbL, V.ltb])
set_option maxHeartbeats 4000000 in
theorem e76o (peer now : Int) (vt t : Tm) (hs : ∀ u ∈ t.args, u.small) (g0 g2 g3 g4 g5 g7 g8 g9 g10 g14 g15 g16 g17 g18 : D) :
    CV VP 76 [.agg [.d g0, .d (I peer), .d g2, .d g3, .d g4, .d g5, .d (I now), .d g7, .d g8, .d g9, .d g10, .d (I vt.op), .d (I vt.val), .d (.sl (vt.args.map Tm.row)), .d g14, .d g15, .d g16, .d g17, .d g18], t.ag] [] =
      some ⟨.tup [(openT peer now vt t).1.ag, .d (B (openT peer now vt t).2)], [], [], 0⟩ := by
  have h98 := e98 vt t hs
  cases hu : Tm.unseal vt t with
  | none =>
    rw [openT_none hu]
    rw [hu] at h98
    simp only [unsV, Tm.zero, Tm.ag, Tm.op_mk, Tm.val_mk, Tm.args_mk, List.map_nil] at h98 ⊢
    refine CV_run (vf := vf76) rfl rfl ?_
    rw [vf76_start]
    (repeat (first
    | refine RX_seq ?_
    | refine RX_block ?_
    | ((first | refine RX_reg ?_ | refine RX_cond' ?_ | refine RX_draw0 ?_ | refine RX_draw rfl ?_ | refine RX_skip ?_ | refine RX_gfrz ?_ | refine RX_exit ?_ | refine RX_ret ?_); try (simp only [go_sem, Nat.max_zero, List.isEmpty_cons, Int.reduceToNat, Nat.reducePow, Int.reduceEq, Int.reduceNe, Int.reduceLT, Int.reduceLE, Nat.reduceAdd, Nat.reduceLeDiff, ↓reduceIte, Nat.reduceLT, Nat.reduceMul, Nat.reduceSub, reduceCtorEq, frzLoc, rowCells, vAppM, beq_iff_eq, bne_iff_ne, bne_self_eq_false, beq_self_eq_true, beq_true, beq_false, I, B, w, vf76_res, vf76_keep, h98]))))
  | some b =>
    obtain ⟨o, v, l⟩ := b
    rw [hu] at h98
    by_cases hb : o = 3 ∧ l.length = 3
    · obtain ⟨rfl, hl⟩ := hb
      obtain ⟨x, p, u, rfl⟩ := list3 l hl
      have hO : openT peer now vt t = if p.op = 1 ∧ u.op = 1 ∧ p.val = peer ∧ now ≤ u.val then (x, true) else (.mk 0 0 [], false) := by unfold openT; rw [hu]; rfl
      rw [hO]
      obtain ⟨xo, xv, xa⟩ := x
      obtain ⟨po, pv, pa⟩ := p
      obtain ⟨uo, uv, ua⟩ := u
      obtain ⟨to, tv, ta⟩ := t
      have q1 : CV VP 164 [.ptr 4 0, .d (I 1)] [[.d g0, .d (I peer), .d g2, .d g3, .d g4, .d g5, .d (I now), .d g7, .d g8, .d g9, .d g10, .d (I vt.op), .d (I vt.val), .d (.sl (vt.args.map Tm.row)), .d g14, .d g15, .d g16, .d g17, .d g18], [.d (I to), .d (I tv), .d (.sl (ta.map Tm.row))], [.d (I 0), .d (I 0), .d (.sl [])], [.d (I 3), .d (I v), .d (.sl [[I xo, I xv, .sl (xa.map Tm.row)], [I po, I pv, .sl (pa.map Tm.row)], [I uo, I uv, .sl (ua.map Tm.row)]])], [.d (.sl [[I xo, I xv, .sl (xa.map Tm.row)], [I po, I pv, .sl (pa.map Tm.row)], [I uo, I uv, .sl (ua.map Tm.row)]]), .d (B true)]] = some ⟨.d (I (if po = 1 then pv else 0)), [[.d g0, .d (I peer), .d g2, .d g3, .d g4, .d g5, .d (I now), .d g7, .d g8, .d g9, .d g10, .d (I vt.op), .d (I vt.val), .d (.sl (vt.args.map Tm.row)), .d g14, .d g15, .d g16, .d g17, .d g18], [.d (I to), .d (I tv), .d (.sl (ta.map Tm.row))], [.d (I 0), .d (I 0), .d (.sl [])], [.d (I 3), .d (I v), .d (.sl [[I xo, I xv, .sl (xa.map Tm.row)], [I po, I pv, .sl (pa.map Tm.row)], [I uo, I uv, .sl (ua.map Tm.row)]])], [.d (.sl [[I xo, I xv, .sl (xa.map Tm.row)], [I po, I pv, .sl (pa.map Tm.row)], [I uo, I uv, .sl (ua.map Tm.row)]]), .d (B (true && decide (po = 1)))]], [], 0⟩ :=
        e164 1 (by decide) rfl true 4 _ (ctx5 g0 [I peer, g2, g3, g4, g5, I now, g7, g8, g9, g10, I vt.op, I vt.val, .sl (vt.args.map Tm.row), g14, g15, g16, g17, g18] (I to) [I tv, .sl (ta.map Tm.row)] (I 3) [I v, .sl [[I xo, I xv, .sl (xa.map Tm.row)], [I po, I pv, .sl (pa.map Tm.row)], [I uo, I uv, .sl (ua.map Tm.row)]]])
      have q2 : ∀ ok, CV VP 164 [.ptr 4 0, .d (I 2)] [[.d g0, .d (I peer), .d g2, .d g3, .d g4, .d g5, .d (I now), .d g7, .d g8, .d g9, .d g10, .d (I vt.op), .d (I vt.val), .d (.sl (vt.args.map Tm.row)), .d g14, .d g15, .d g16, .d g17, .d g18], [.d (I to), .d (I tv), .d (.sl (ta.map Tm.row))], [.d (I 0), .d (I 0), .d (.sl [])], [.d (I 3), .d (I v), .d (.sl [[I xo, I xv, .sl (xa.map Tm.row)], [I po, I pv, .sl (pa.map Tm.row)], [I uo, I uv, .sl (ua.map Tm.row)]])], [.d (.sl [[I xo, I xv, .sl (xa.map Tm.row)], [I po, I pv, .sl (pa.map Tm.row)], [I uo, I uv, .sl (ua.map Tm.row)]]), .d (B ok)]] = some ⟨.d (I (if uo = 1 then uv else 0)), [[.d g0, .d (I peer), .d g2, .d g3, .d g4, .d g5, .d (I now), .d g7, .d g8, .d g9, .d g10, .d (I vt.op), .d (I vt.val), .d (.sl (vt.args.map Tm.row)), .d g14, .d g15, .d g16, .d g17, .d g18], [.d (I to), .d (I tv), .d (.sl (ta.map Tm.row))], [.d (I 0), .d (I 0), .d (.sl [])], [.d (I 3), .d (I v), .d (.sl [[I xo, I xv, .sl (xa.map Tm.row)], [I po, I pv, .sl (pa.map Tm.row)], [I uo, I uv, .sl (ua.map Tm.row)]])], [.d (.sl [[I xo, I xv, .sl (xa.map Tm.row)], [I po, I pv, .sl (pa.map Tm.row)], [I uo, I uv, .sl (ua.map Tm.row)]]), .d (B (ok && decide (uo = 1)))]], [], 0⟩ := fun ok =>
        e164 2 (by decide) rfl ok 4 _ (ctx5 g0 [I peer, g2, g3, g4, g5, I now, g7, g8, g9, g10, I vt.op, I vt.val, .sl (vt.args.map Tm.row), g14, g15, g16, g17, g18] (I to) [I tv, .sl (ta.map Tm.row)] (I 3) [I v, .sl [[I xo, I xv, .sl (xa.map Tm.row)], [I po, I pv, .sl (pa.map Tm.row)], [I uo, I uv, .sl (ua.map Tm.row)]]])
      clear hO hu hs hl
      simp only [unsV, Tm.ag, Tm.op_mk, Tm.val_mk, Tm.args_mk, List.map_nil, List.map_cons, Tm.row_mk] at h98 ⊢
      refine CV_run (vf := vf76) rfl rfl ?_
      rw [vf76_start]
      by_cases hp : po = 1
      · by_cases hq : uo = 1
        · by_cases hr : pv = peer
          · by_cases hn : now ≤ uv
            · have hn2 : ¬ uv < now := by omega
              simp only [hp, hq, hr, hn, if_true, and_self, decide_true, Bool.and_true, Tm.op_mk, Tm.val_mk, Tm.args_mk] at q1 q2 h98 ⊢
              (repeat (first
    | refine RX_seq ?_
    | refine RX_block ?_
    | ((first | refine RX_reg ?_ | refine RX_cond' ?_ | refine RX_draw0 ?_ | refine RX_draw rfl ?_ | refine RX_skip ?_ | refine RX_gfrz ?_ | refine RX_exit ?_ | refine RX_ret ?_); try (simp only [go_sem, Nat.max_zero, List.isEmpty_cons, Int.reduceToNat, Nat.reducePow, Int.reduceEq, Int.reduceNe, Int.reduceLT, Int.reduceLE, Nat.reduceAdd, Nat.reduceLeDiff, ↓reduceIte, Nat.reduceLT, Nat.reduceMul, Nat.reduceSub, reduceCtorEq, frzLoc, rowCells, vAppM, beq_iff_eq, bne_iff_ne, bne_self_eq_false, beq_self_eq_true, beq_true, beq_false, I, B, w, vf76_res, vf76_keep, h98, q1, q2, ibne, decide_not, hn2, not_true_eq_false]))))
            · have hn2 : uv < now := by omega
              simp only [hp, hq, hr, hn, if_true, if_false, and_false, and_self, decide_true, Bool.and_true, Tm.op_mk, Tm.val_mk, Tm.args_mk, List.map_nil] at q1 q2 h98 ⊢
              (repeat (first
    | refine RX_seq ?_
    | refine RX_block ?_
    | ((first | refine RX_reg ?_ | refine RX_cond' ?_ | refine RX_draw0 ?_ | refine RX_draw rfl ?_ | refine RX_skip ?_ | refine RX_gfrz ?_ | refine RX_exit ?_ | refine RX_ret ?_); try (simp only [go_sem, Nat.max_zero, List.isEmpty_cons, Int.reduceToNat, Nat.reducePow, Int.reduceEq, Int.reduceNe, Int.reduceLT, Int.reduceLE, Nat.reduceAdd, Nat.reduceLeDiff, ↓reduceIte, Nat.reduceLT, Nat.reduceMul, Nat.reduceSub, reduceCtorEq, frzLoc, rowCells, vAppM, beq_iff_eq, bne_iff_ne, bne_self_eq_false, beq_self_eq_true, beq_true, beq_false, I, B, w, vf76_res, vf76_keep, h98, q1, q2, ibne, decide_not, hn2, not_true_eq_false]))))
          · simp only [hp, hq, hr, if_true, if_false, false_and, and_false, decide_true, Bool.and_true, Tm.op_mk, Tm.val_mk, Tm.args_mk, List.map_nil] at q1 q2 h98 ⊢
            (repeat (first
    | refine RX_seq ?_
    | refine RX_block ?_
    | ((first | refine RX_reg ?_ | refine RX_cond' ?_ | refine RX_draw0 ?_ | refine RX_draw rfl ?_ | refine RX_skip ?_ | refine RX_gfrz ?_ | refine RX_exit ?_ | refine RX_ret ?_); try (simp only [go_sem, Nat.max_zero, List.isEmpty_cons, Int.reduceToNat, Nat.reducePow, Int.reduceEq, Int.reduceNe, Int.reduceLT, Int.reduceLE, Nat.reduceAdd, Nat.reduceLeDiff, ↓reduceIte, Nat.reduceLT, Nat.reduceMul, Nat.reduceSub, reduceCtorEq, frzLoc, rowCells, vAppM, beq_iff_eq, bne_iff_ne, bne_self_eq_false, beq_self_eq_true, beq_true, beq_false, I, B, w, vf76_res, vf76_keep, h98, q1, q2, ibne, decide_not, hr, not_false_eq_true]))))
        · simp only [hp, hq, if_true, if_false, false_and, and_false, decide_true, decide_false, Bool.and_true, Bool.and_false, Tm.op_mk, Tm.val_mk, Tm.args_mk, List.map_nil] at q1 q2 h98 ⊢
          (repeat (first
    | refine RX_seq ?_
    | refine RX_block ?_
    | ((first | refine RX_reg ?_ | refine RX_cond' ?_ | refine RX_draw0 ?_ | refine RX_draw rfl ?_ | refine RX_skip ?_ | refine RX_gfrz ?_ | refine RX_exit ?_ | refine RX_ret ?_); try (simp only [go_sem, Nat.max_zero, List.isEmpty_cons, Int.reduceToNat, Nat.reducePow, Int.reduceEq, Int.reduceNe, Int.reduceLT, Int.reduceLE, Nat.reduceAdd, Nat.reduceLeDiff, ↓reduceIte, Nat.reduceLT, Nat.reduceMul, Nat.reduceSub, reduceCtorEq, frzLoc, rowCells, vAppM, beq_iff_eq, bne_iff_ne, bne_self_eq_false, beq_self_eq_true, beq_true, beq_false, I, B, w, vf76_res, vf76_keep, h98, q1, q2, ibne]))))
      · simp only [hp, if_false, false_and, decide_false, Bool.and_false, Bool.false_and, Tm.op_mk, Tm.val_mk, Tm.args_mk, List.map_nil] at q1 q2 h98 ⊢
        have q3 := q2 false
        simp only [Bool.false_and] at q3
        (repeat (first
    | refine RX_seq ?_
    | refine RX_block ?_
    | ((first | refine RX_reg ?_ | refine RX_cond' ?_ | refine RX_draw0 ?_ | refine RX_draw rfl ?_ | refine RX_skip ?_ | refine RX_gfrz ?_ | refine RX_exit ?_ | refine RX_ret ?_); try (simp only [go_sem, Nat.max_zero, List.isEmpty_cons, Int.reduceToNat, Nat.reducePow, Int.reduceEq, Int.reduceNe, Int.reduceLT, Int.reduceLE, Nat.reduceAdd, Nat.reduceLeDiff, ↓reduceIte, Nat.reduceLT, Nat.reduceMul, Nat.reduceSub, reduceCtorEq, frzLoc, rowCells, vAppM, beq_iff_eq, bne_iff_ne, bne_self_eq_false, beq_self_eq_true, beq_true, beq_false, I, B, w, vf76_res, vf76_keep, h98, q1, q3, ibne]))))
    · rw [openT_bad hu hb]
      simp only [unsV, Tm.ag, Tm.op_mk, Tm.val_mk, Tm.args_mk, List.map_nil] at h98 ⊢
      refine CV_run (vf := vf76) rfl rfl ?_
      rw [vf76_start]
      by_cases h3 : o = 3
      · have hl : ¬ (l.length : Int) = 3 := fun h => hb ⟨h3, by omega⟩
        (repeat (first
    | refine RX_seq ?_
    | refine RX_block ?_
    | ((first | refine RX_reg ?_ | refine RX_cond' ?_ | refine RX_draw0 ?_ | refine RX_draw rfl ?_ | refine RX_skip ?_ | refine RX_gfrz ?_ | refine RX_exit ?_ | refine RX_ret ?_); try (simp only [go_sem, Nat.max_zero, List.isEmpty_cons, Int.reduceToNat, Nat.reducePow, Int.reduceEq, Int.reduceNe, Int.reduceLT, Int.reduceLE, Nat.reduceAdd, Nat.reduceLeDiff, ↓reduceIte, Nat.reduceLT, Nat.reduceMul, Nat.reduceSub, reduceCtorEq, frzLoc, rowCells, vAppM, beq_iff_eq, bne_iff_ne, bne_self_eq_false, beq_self_eq_true, beq_true, beq_false, I, B, w, vf76_res, vf76_keep, h98, h3, hl, ibne, decide_not, List.length_map]))))
      · (repeat (first
    | refine RX_seq ?_
    | refine RX_block ?_
    | ((first | refine RX_reg ?_ | refine RX_cond' ?_ | refine RX_draw0 ?_ | refine RX_draw rfl ?_ | refine RX_skip ?_ | refine RX_gfrz ?_ | refine RX_exit ?_ | refine RX_ret ?_); try (simp only [go_sem, Nat.max_zero, List.isEmpty_cons, Int.reduceToNat, Nat.reducePow, Int.reduceEq, Int.reduceNe, Int.reduceLT, Int.reduceLE, Nat.reduceAdd, Nat.reduceLeDiff, ↓reduceIte, Nat.reduceLT, Nat.reduceMul, Nat.reduceSub, reduceCtorEq, frzLoc, rowCells, vAppM, beq_iff_eq, bne_iff_ne, bne_self_eq_false, beq_self_eq_true, beq_true, beq_false, I, B, w, vf76_res, vf76_keep, h98, h3, ibne, decide_not]))))
end Go.Proofs.YtknbgkfojmedpaaGreat
namespace Go.Proofs.YtknbgkfojmedpaaGreat
open Go.VM
theorem unseal_mem {vt t b : Tm} (h : Tm.unseal vt t = some b) : b ∈ t.args := by
  unfold Tm.unseal at h
  split at h
  · split at h
    · cases h; simp [Tm.args]
    · cases h
  · cases h
theorem eqb_num {p : Tm} {n : Int} (hl : p.op = 1 → p.args = []) : p.eqb (nT n) = decide (p.op = 1 ∧ p.val = n) := by
  obtain ⟨o, v, a⟩ := p
  simp only [Tm.op_mk, Tm.args_mk, Tm.val_mk] at hl ⊢
  simp only [nT, Tm.eqb]
  by_cases ho : o = 1
  · rw [hl ho]; subst ho; simp [Tm.eqbs, ibeq]
  · simp [ho, ibeq]
set_option maxHeartbeats 4000000 in
theorem e89o (peer now : Int) (vt t : Tm) (hs : ∀ u ∈ t.args, u.small) (hlf : ∀ u ∈ t.args, ∀ x ∈ u.args, x.op = 1 → x.args = []) (g0 g2 g3 g4 g5 g7 g8 g9 g10 g14 g15 g16 g17 g18 : D) :
    CV VP 89 [.agg [.d g0, .d (I peer), .d g2, .d g3, .d g4, .d g5, .d (I now), .d g7, .d g8, .d g9, .d g10, .d (I vt.op), .d (I vt.val), .d (.sl (vt.args.map Tm.row)), .d g14, .d g15, .d g16, .d g17, .d g18], t.ag] [] =
      some ⟨.tup [(openT peer now vt t).1.ag, .d (B (openT peer now vt t).2)], [], [], 0⟩ := by
  have h98 := e100 vt t hs
  cases hu : Tm.unseal vt t with
  | none =>
    rw [openT_none hu]
    rw [hu] at h98
    simp only [unsV, Tm.zero, Tm.ag, Tm.op_mk, Tm.val_mk, Tm.args_mk, List.map_nil] at h98 ⊢
    refine CV_run (vf := vf89) rfl rfl ?_
    rw [vf89_start]
    (repeat (first
    | refine RX_seq ?_
    | refine RX_block ?_
    | ((first | refine RX_reg ?_ | refine RX_cond' ?_ | refine RX_draw0 ?_ | refine RX_draw rfl ?_ | refine RX_skip ?_ | refine RX_gfrz ?_ | refine RX_exit ?_ | refine RX_ret ?_); try (simp only [go_sem, Nat.max_zero, List.isEmpty_cons, Int.reduceToNat, Nat.reducePow, Int.reduceEq, Int.reduceNe, Int.reduceLT, Int.reduceLE, Nat.reduceAdd, Nat.reduceLeDiff, ↓reduceIte, Nat.reduceLT, Nat.reduceMul, Nat.reduceSub, reduceCtorEq, frzLoc, rowCells, vAppM, beq_iff_eq, bne_iff_ne, bne_self_eq_false, beq_self_eq_true, beq_true, beq_false, I, B, w, vf89_res, vf89_keep, h98]))))
  | some b =>
    have hm := unseal_mem hu
    have hsm := hs b hm
    have hlb := hlf b hm
    obtain ⟨o, v, l⟩ := b
    rw [hu] at h98
    by_cases hb : o = 3 ∧ l.length = 3
    · obtain ⟨rfl, hl⟩ := hb
      obtain ⟨x, p, u, rfl⟩ := list3 l hl
      have hO : openT peer now vt t = if p.op = 1 ∧ u.op = 1 ∧ p.val = peer ∧ now ≤ u.val then (x, true) else (.mk 0 0 [], false) := by unfold openT; rw [hu]; rfl
      rw [hO]
      have hN := e75 peer
      have hps : p.small := Tm.smalls_mem hsm.2 (by simp)
      have hE := e19 _ p (nT peer) (Nat.lt_succ_self _) hps
      rw [eqb_num (hlb p (by simp [Tm.args]))] at hE
      obtain ⟨xo, xv, xa⟩ := x
      obtain ⟨po, pv, pa⟩ := p
      obtain ⟨uo, uv, ua⟩ := u
      obtain ⟨to, tv, ta⟩ := t
      clear hO hu hs hl hm hsm hlb hlf hps
      simp only [unsV, nT, Tm.ag, Tm.op_mk, Tm.val_mk, Tm.args_mk, List.map_nil, List.map_cons, Tm.row_mk] at h98 hE ⊢
      refine CV_run (vf := vf89) rfl rfl ?_
      rw [vf89_start]
      by_cases hp : po = 1 ∧ pv = peer
      · obtain ⟨rfl, rfl⟩ := hp
        simp only [and_self, decide_true] at hE
        by_cases hq : uo = 1
        · by_cases hn : now ≤ uv
          · have hn2 : ¬ uv < now := by omega
            simp only [hq, hn, if_true, and_self, Tm.op_mk, Tm.val_mk, Tm.args_mk]
            (repeat (first
    | refine RX_seq ?_
    | refine RX_block ?_
    | ((first | refine RX_reg ?_ | refine RX_cond' ?_ | refine RX_draw0 ?_ | refine RX_draw rfl ?_ | refine RX_skip ?_ | refine RX_gfrz ?_ | refine RX_exit ?_ | refine RX_ret ?_); try (simp only [go_sem, Nat.max_zero, List.isEmpty_cons, Int.reduceToNat, Nat.reducePow, Int.reduceEq, Int.reduceNe, Int.reduceLT, Int.reduceLE, Nat.reduceAdd, Nat.reduceLeDiff, ↓reduceIte, Nat.reduceLT, Nat.reduceMul, Nat.reduceSub, reduceCtorEq, frzLoc, rowCells, vAppM, beq_iff_eq, bne_iff_ne, bne_self_eq_false, beq_self_eq_true, beq_true, beq_false, I, B, w, vf89_res, vf89_keep, h98, hN, hE, hq, ibne, decide_not, hn2, not_true_eq_false]))))
          · have hn2 : uv < now := by omega
            simp only [hq, hn, if_true, if_false, and_false, and_self, Tm.op_mk, Tm.val_mk, Tm.args_mk, List.map_nil]
            (repeat (first
    | refine RX_seq ?_
    | refine RX_block ?_
    | ((first | refine RX_reg ?_ | refine RX_cond' ?_ | refine RX_draw0 ?_ | refine RX_draw rfl ?_ | refine RX_skip ?_ | refine RX_gfrz ?_ | refine RX_exit ?_ | refine RX_ret ?_); try (simp only [go_sem, Nat.max_zero, List.isEmpty_cons, Int.reduceToNat, Nat.reducePow, Int.reduceEq, Int.reduceNe, Int.reduceLT, Int.reduceLE, Nat.reduceAdd, Nat.reduceLeDiff, ↓reduceIte, Nat.reduceLT, Nat.reduceMul, Nat.reduceSub, reduceCtorEq, frzLoc, rowCells, vAppM, beq_iff_eq, bne_iff_ne, bne_self_eq_false, beq_self_eq_true, beq_true, beq_false, I, B, w, vf89_res, vf89_keep, h98, hN, hE, hq, ibne, decide_not, hn2, not_true_eq_false]))))
        · simp only [hq, if_false, false_and, and_false, Tm.op_mk, Tm.val_mk, Tm.args_mk, List.map_nil]
          (repeat (first
    | refine RX_seq ?_
    | refine RX_block ?_
    | ((first | refine RX_reg ?_ | refine RX_cond' ?_ | refine RX_draw0 ?_ | refine RX_draw rfl ?_ | refine RX_skip ?_ | refine RX_gfrz ?_ | refine RX_exit ?_ | refine RX_ret ?_); try (simp only [go_sem, Nat.max_zero, List.isEmpty_cons, Int.reduceToNat, Nat.reducePow, Int.reduceEq, Int.reduceNe, Int.reduceLT, Int.reduceLE, Nat.reduceAdd, Nat.reduceLeDiff, ↓reduceIte, Nat.reduceLT, Nat.reduceMul, Nat.reduceSub, reduceCtorEq, frzLoc, rowCells, vAppM, beq_iff_eq, bne_iff_ne, bne_self_eq_false, beq_self_eq_true, beq_true, beq_false, I, B, w, vf89_res, vf89_keep, h98, hN, hE, hq, ibne, decide_not, not_false_eq_true]))))
      · simp only [hp, decide_false] at hE
        have hp2 : ¬ (po = 1 ∧ uo = 1 ∧ pv = peer ∧ now ≤ uv) := fun h => hp ⟨h.1, h.2.2.1⟩
        simp only [hp2, if_false, Tm.op_mk, Tm.val_mk, Tm.args_mk, List.map_nil]
        (repeat (first
    | refine RX_seq ?_
    | refine RX_block ?_
    | ((first | refine RX_reg ?_ | refine RX_cond' ?_ | refine RX_draw0 ?_ | refine RX_draw rfl ?_ | refine RX_skip ?_ | refine RX_gfrz ?_ | refine RX_exit ?_ | refine RX_ret ?_); try (simp only [go_sem, Nat.max_zero, List.isEmpty_cons, Int.reduceToNat, Nat.reducePow, Int.reduceEq, Int.reduceNe, Int.reduceLT, Int.reduceLE, Nat.reduceAdd, Nat.reduceLeDiff, ↓reduceIte, Nat.reduceLT, Nat.reduceMul, Nat.reduceSub, reduceCtorEq, frzLoc, rowCells, vAppM, beq_iff_eq, bne_iff_ne, bne_self_eq_false, beq_self_eq_true, beq_true, beq_false, I, B, w, vf89_res, vf89_keep, h98, hN, hE, ibne, decide_not]))))
    · rw [openT_bad hu hb]
      simp only [unsV, Tm.ag, Tm.op_mk, Tm.val_mk, Tm.args_mk, List.map_nil] at h98 ⊢
      refine CV_run (vf := vf89) rfl rfl ?_
      rw [vf89_start]
      by_cases h3 : o = 3
      · have hl : ¬ (l.length : Int) = 3 := fun h => hb ⟨h3, by omega⟩
        (repeat (first
    | refine RX_seq ?_
    | refine RX_block ?_
    | ((first | refine RX_reg ?_ | refine RX_cond' ?_ | refine RX_draw0 ?_ | refine RX_draw rfl ?_ | refine RX_skip ?_ | refine RX_gfrz ?_ | refine RX_exit ?_ | refine RX_ret ?_); try (simp only [go_sem, Nat.max_zero, List.isEmpty_cons, Int.reduceToNat, Nat.reducePow, Int.reduceEq, Int.reduceNe, Int.reduceLT, Int.reduceLE, Nat.reduceAdd, Nat.reduceLeDiff, ↓reduceIte, Nat.reduceLT, Nat.reduceMul, Nat.reduceSub, reduceCtorEq, frzLoc, rowCells, vAppM, beq_iff_eq, bne_iff_ne, bne_self_eq_false, beq_self_eq_true, beq_true, beq_false, I, B, w, vf89_res, vf89_keep, h98, h3, hl, ibne, decide_not, List.length_map]))))
      · (repeat (first
    | refine RX_seq ?_
    | refine RX_block ?_
    | ((first | refine RX_reg ?_ | refine RX_cond' ?_ | refine RX_draw0 ?_ | refine RX_draw rfl ?_ | refine RX_skip ?_ | refine RX_gfrz ?_ | refine RX_exit ?_ | refine RX_ret ?_); try (simp only [go_sem, Nat.max_zero, List.isEmpty_cons, Int.reduceToNat, Nat.reducePow, Int.reduceEq, Int.reduceNe, Int.reduceLT, Int.reduceLE, Nat.reduceAdd, Nat.reduceLeDiff, ↓reduceIte, Nat.reduceLT, Nat.reduceMul, Nat.reduceSub, reduceCtorEq, frzLoc, rowCells, vAppM, beq_iff_eq, bne_iff_ne, bne_self_eq_false, beq_self_eq_true, beq_true, beq_false, I, B, w, vf89_res, vf89_keep, h98, h3, ibne, decide_not]))))
end Go.Proofs.YtknbgkfojmedpaaGreat
namespace Go.Proofs.YtknbgkfojmedpaaGreat
open Go.VM
mutual
def Tm.numl : Tm → Prop
  | .mk o _ args => (o = 1 → args = []) ∧ Tm.numls args
def Tm.numls : List Tm → Prop
  | [] => True
  | t :: ts => t.numl ∧ Tm.numls ts
end
theorem Tm.numls_mem : ∀ {ts : List Tm} {t : Tm}, Tm.numls ts → t ∈ ts → t.numl
  | t :: ts, u, h, hu => by
    rcases List.mem_cons.1 hu with rfl | hu
    · exact h.1
    · exact Tm.numls_mem h.2 hu
theorem Tm.numl_args {t : Tm} (h : t.numl) : Tm.numls t.args := by cases t; exact h.2
theorem Tm.numl_op {t : Tm} (h : t.numl) : t.op = 1 → t.args = [] := by cases t; exact h.1
theorem drL_numl {f : Nat → Tm × Nat} (hf : ∀ k, (f k).1.numl) : ∀ n k, Tm.numls (drL f n k).1
  | 0, _ => trivial
  | n + 1, k => ⟨hf k, drL_numl hf n _⟩
theorem leaf_numl (o v : Int) : Tm.numl (.mk o v []) := ⟨fun _ => rfl, trivial⟩
theorem drT_numl (l : List Int) : ∀ d k, (drT l d k).1.numl
  | 0, k => leaf_numl _ _
  | d + 1, k => by
    have ih := drT_numl l d
    rw [drT]
    split
    · exact leaf_numl _ _
    split
    · exact ⟨fun h => absurd h (by decide), drL_numl ih _ _⟩
    split
    · exact ⟨fun h => absurd h (by decide), leaf_numl _ _, trivial⟩
    split
    · exact ⟨fun h => absurd h (by decide), leaf_numl _ _, leaf_numl _ _, trivial⟩
    split
    · exact ⟨fun h => absurd h (by decide), ih _, trivial⟩
    split
    · exact ⟨fun h => absurd h (by decide), ih _, ih _, trivial⟩
    · exact ⟨fun h => absurd h (by decide), ih _, trivial⟩
theorem seal_leafs {k b : Tm} (h1 : k.numl) (h2 : b.numl) : ∀ u ∈ (Tm.mk 7 0 [k, b]).args, ∀ x ∈ u.args, x.op = 1 → x.args = [] := by
  intro u hu x hx
  simp only [Tm.args, List.mem_cons, List.not_mem_nil, or_false] at hu
  rcases hu with rfl | rfl
  · exact Tm.numl_op (Tm.numls_mem (Tm.numl_args h1) hx)
  · exact Tm.numl_op (Tm.numls_mem (Tm.numl_args h2) hx)
end Go.Proofs.YtknbgkfojmedpaaGreat
