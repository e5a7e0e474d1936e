/- Boxes on the machine. Conditions: none. -/
import Derived.Test.YtciaehhaglaafaaVd
import Derived.Test.YtciaehhaglaafaaCma1
set_option linter.unusedSimpArgs false
namespace Go.Proofs.Ytciaehhaglaafaa
open Go.VM
end Go.Proofs.Ytciaehhaglaafaa

namespace Go.Proofs.Ytciaehhaglaafaa
open Go.VM
/-- the choices that are drawn, as functions of the place -/
structure NX (R : List (List D)) (nx : Int → Int → Int) (na : Int → Int) : Prop where
  nn : ∀ k, 0 ≤ na k
  rng : ∀ k n, 0 < n → 0 ≤ nx k n ∧ nx k n < n
  call : ∀ (k n : Int) (rest : List (List V)), 0 ≤ k → 0 < n → n ≤ 256 → rest.map V.erL = rest → rest.all (V.ltbL (1 + rest.length)) = true →
    CV VP 22 [.ptr 0 0, .d (I n)] ([.d (.sl R), .d (I k)] :: rest) = some ⟨.d (I (nx k n)), [.d (.sl R), .d (I (na k))] :: rest, [], 0⟩
theorem nx_of {l : List Int} (hB : Bytes l) : NX (l.map byteRow) (fun k n => nxV l k.toNat n) (fun k => (nxA l k.toNat : Nat)) where
  nn := fun k => Int.natCast_nonneg _
  rng := fun k n hn => nxV_range hB hn
  call := fun k n rest hk hn hn2 he hl => by
    have h := e29 hB (bl := [[]]) (id := 0) (k := k.toNat) (own := rest) CtxOk.base hn hn2 (by simpa using he) (by simpa using hl)
    rw [Int.toNat_of_nonneg hk] at h
    exact h
abbrev qN (a : Int) : Bool × Bool := ((!(eqF a a)), false)
theorem eqF_self (a : Int) : eqF a a = true := by rw [eqF_eq]; simp
theorem okN {a : Int} {l : List (Bool × Bool)} (h : OKs l) : OKs (qN a :: l) := .cons (by rw [eqF_self]; rfl) h
end Go.Proofs.Ytciaehhaglaafaa

namespace Go.Proofs.Ytciaehhaglaafaa
open Go.VM
theorem eqT {a b : Int} (h : a = b) : eqF a b = true := by rw [eqF_eq]; simpa using h
theorem eqN {a b : Int} (h : a ≠ b) : eqF a b = false := by rw [eqF_eq]; simpa using h
theorem neT {a b : Int} (h : a ≠ b) : (!(eqF a b)) = true := by rw [eqN h]; rfl
theorem wF_in {n : Int} (h1 : -9223372036854775808 ≤ n) (h2 : n ≤ 9223372036854775807) : wF n = n := by rw [wF_eq]; exact w_in h1 h2
/-- rows that are terms, not too wide -/
def IsS (r : List D) : Prop := ∃ t : Tm, t.small ∧ r = t.row
def IsSs (rows : List (List D)) : Prop := ∃ ts : List Tm, Tm.smalls ts ∧ rows = ts.map Tm.row
theorem IsSs.nil : IsSs [] := ⟨[], trivial, rfl⟩
theorem IsSs.cons {r : List D} {rs : List (List D)} (h : IsS r) (hs : IsSs rs) : IsSs (r :: rs) := by
  obtain ⟨t, h1, rfl⟩ := h
  obtain ⟨ts, h2, rfl⟩ := hs
  exact ⟨t :: ts, ⟨h1, h2⟩, rfl⟩
theorem IsS.mk {a b : Int} {rows : List (List D)} (h : IsSs rows) (hl : rows.length < 1000) : IsS [I a, I b, .sl rows] := by
  obtain ⟨ts, h1, rfl⟩ := h
  rw [List.length_map] at hl
  exact ⟨.mk a b ts, ⟨by omega, h1⟩, (Tm.row_mk a b ts).symm⟩
end Go.Proofs.Ytciaehhaglaafaa

namespace Go.Proofs.Ytciaehhaglaafaa
open Go.VM
def cmpI (a b : Int) : Int := if a < b then -1 else if b < a then 1 else 0
theorem e135 (a : Int) : CV VP 245 [.d (I a)] [] = some ⟨.d (B false), [], [], 0⟩ := by
  refine CV_run (vf := vf245) rfl rfl ?_
  rw [vf245_start]
  (repeat (first
    | refine RX_seq ?_
    | refine RX_block ?_
    | ((first | refine RX_reg ?_ | refine RX_cond' ?_ | refine RX_draw0 ?_ | refine RX_draw rfl ?_ | refine RX_skip ?_ | refine RX_exit ?_ | refine RX_ret ?_); try (simp only [go_sem, Int.reduceToNat, Nat.reducePow, Int.reduceEq, Int.reduceNe, Int.reduceLT, Int.reduceLE, Nat.reduceAdd, Nat.reduceLeDiff, ↓reduceIte, Nat.reduceLT, Nat.reduceMul, Nat.reduceSub, reduceCtorEq, frzLoc, rowCells, vAppM, beq_iff_eq, bne_iff_ne, bne_self_eq_false, beq_self_eq_true, beq_true, beq_false, I, B, w, vf245_res, vf245_keep]))))
theorem e136 (a : Int) : CV VP 246 [.d (U a)] [] = some ⟨.d (B false), [], [], 0⟩ := by
  refine CV_run (vf := vf246) rfl rfl ?_
  rw [vf246_start]
  (repeat (first
    | refine RX_seq ?_
    | refine RX_block ?_
    | ((first | refine RX_reg ?_ | refine RX_cond' ?_ | refine RX_draw0 ?_ | refine RX_draw rfl ?_ | refine RX_skip ?_ | refine RX_exit ?_ | refine RX_ret ?_); try (simp only [go_sem, Int.reduceToNat, Nat.reducePow, Int.reduceEq, Int.reduceNe, Int.reduceLT, Int.reduceLE, Nat.reduceAdd, Nat.reduceLeDiff, ↓reduceIte, Nat.reduceLT, Nat.reduceMul, Nat.reduceSub, reduceCtorEq, frzLoc, rowCells, vAppM, beq_iff_eq, bne_iff_ne, bne_self_eq_false, beq_self_eq_true, beq_true, beq_false, I, B, w, vf246_res, vf246_keep]))))
theorem e133 (a b : Int) : CV VP 241 [.d (I a), .d (I b)] [] = some ⟨.d (I (cmpI a b)), [], [], 0⟩ := by
  unfold cmpI
  refine CV_run (vf := vf241) rfl rfl ?_
  rw [vf241_start]
  by_cases h1 : a < b
  · (repeat (first
    | refine RX_seq ?_
    | refine RX_block ?_
    | ((first | refine RX_reg ?_ | refine RX_cond' ?_ | refine RX_draw0 ?_ | refine RX_draw rfl ?_ | refine RX_skip ?_ | refine RX_exit ?_ | refine RX_ret ?_); try (simp only [go_sem, Int.reduceToNat, Nat.reducePow, Int.reduceEq, Int.reduceNe, Int.reduceLT, Int.reduceLE, Nat.reduceAdd, Nat.reduceLeDiff, ↓reduceIte, Nat.reduceLT, Nat.reduceMul, Nat.reduceSub, reduceCtorEq, frzLoc, rowCells, vAppM, beq_iff_eq, bne_iff_ne, bne_self_eq_false, beq_self_eq_true, beq_true, beq_false, I, B, w, vf241_res, vf241_keep, e135, h1]))))
  · by_cases h2 : b < a
    · (repeat (first
    | refine RX_seq ?_
    | refine RX_block ?_
    | ((first | refine RX_reg ?_ | refine RX_cond' ?_ | refine RX_draw0 ?_ | refine RX_draw rfl ?_ | refine RX_skip ?_ | refine RX_exit ?_ | refine RX_ret ?_); try (simp only [go_sem, Int.reduceToNat, Nat.reducePow, Int.reduceEq, Int.reduceNe, Int.reduceLT, Int.reduceLE, Nat.reduceAdd, Nat.reduceLeDiff, ↓reduceIte, Nat.reduceLT, Nat.reduceMul, Nat.reduceSub, reduceCtorEq, frzLoc, rowCells, vAppM, beq_iff_eq, bne_iff_ne, bne_self_eq_false, beq_self_eq_true, beq_true, beq_false, I, B, w, vf241_res, vf241_keep, e135, h1, h2, gt_iff_lt]))))
    · (repeat (first
    | refine RX_seq ?_
    | refine RX_block ?_
    | ((first | refine RX_reg ?_ | refine RX_cond' ?_ | refine RX_draw0 ?_ | refine RX_draw rfl ?_ | refine RX_skip ?_ | refine RX_exit ?_ | refine RX_ret ?_); try (simp only [go_sem, Int.reduceToNat, Nat.reducePow, Int.reduceEq, Int.reduceNe, Int.reduceLT, Int.reduceLE, Nat.reduceAdd, Nat.reduceLeDiff, ↓reduceIte, Nat.reduceLT, Nat.reduceMul, Nat.reduceSub, reduceCtorEq, frzLoc, rowCells, vAppM, beq_iff_eq, bne_iff_ne, bne_self_eq_false, beq_self_eq_true, beq_true, beq_false, I, B, w, vf241_res, vf241_keep, e135, h1, h2, gt_iff_lt]))))
theorem e134 (a b : Int) : CV VP 242 [.d (U a), .d (U b)] [] = some ⟨.d (I (cmpI a b)), [], [], 0⟩ := by
  unfold cmpI
  refine CV_run (vf := vf242) rfl rfl ?_
  rw [vf242_start]
  by_cases h1 : a < b
  · (repeat (first
    | refine RX_seq ?_
    | refine RX_block ?_
    | ((first | refine RX_reg ?_ | refine RX_cond' ?_ | refine RX_draw0 ?_ | refine RX_draw rfl ?_ | refine RX_skip ?_ | refine RX_exit ?_ | refine RX_ret ?_); try (simp only [go_sem, Int.reduceToNat, Nat.reducePow, Int.reduceEq, Int.reduceNe, Int.reduceLT, Int.reduceLE, Nat.reduceAdd, Nat.reduceLeDiff, ↓reduceIte, Nat.reduceLT, Nat.reduceMul, Nat.reduceSub, reduceCtorEq, frzLoc, rowCells, vAppM, beq_iff_eq, bne_iff_ne, bne_self_eq_false, beq_self_eq_true, beq_true, beq_false, I, B, w, vf242_res, vf242_keep, e136, h1]))))
  · by_cases h2 : b < a
    · (repeat (first
    | refine RX_seq ?_
    | refine RX_block ?_
    | ((first | refine RX_reg ?_ | refine RX_cond' ?_ | refine RX_draw0 ?_ | refine RX_draw rfl ?_ | refine RX_skip ?_ | refine RX_exit ?_ | refine RX_ret ?_); try (simp only [go_sem, Int.reduceToNat, Nat.reducePow, Int.reduceEq, Int.reduceNe, Int.reduceLT, Int.reduceLE, Nat.reduceAdd, Nat.reduceLeDiff, ↓reduceIte, Nat.reduceLT, Nat.reduceMul, Nat.reduceSub, reduceCtorEq, frzLoc, rowCells, vAppM, beq_iff_eq, bne_iff_ne, bne_self_eq_false, beq_self_eq_true, beq_true, beq_false, I, B, w, vf242_res, vf242_keep, e136, h1, h2, gt_iff_lt]))))
    · (repeat (first
    | refine RX_seq ?_
    | refine RX_block ?_
    | ((first | refine RX_reg ?_ | refine RX_cond' ?_ | refine RX_draw0 ?_ | refine RX_draw rfl ?_ | refine RX_skip ?_ | refine RX_exit ?_ | refine RX_ret ?_); try (simp only [go_sem, Int.reduceToNat, Nat.reducePow, Int.reduceEq, Int.reduceNe, Int.reduceLT, Int.reduceLE, Nat.reduceAdd, Nat.reduceLeDiff, ↓reduceIte, Nat.reduceLT, Nat.reduceMul, Nat.reduceSub, reduceCtorEq, frzLoc, rowCells, vAppM, beq_iff_eq, bne_iff_ne, bne_self_eq_false, beq_self_eq_true, beq_true, beq_false, I, B, w, vf242_res, vf242_keep, e136, h1, h2, gt_iff_lt]))))
def or3 (a b c : Int) : Int := if a ≠ 0 then a else if b ≠ 0 then b else c
theorem e132 (a b c : Int) : CV VP 240 [.d (.sl [[I a], [I b], [I c]])] [] = some ⟨.d (I (or3 a b c)), [], [], 0⟩ := by
  unfold or3
  refine CV_run (vf := vf240) rfl rfl ?_
  rw [vf240_start]
  have w1 : IntKind.i64.wrap (0 + 1) = 1 := rfl
  have w2 : IntKind.i64.wrap (1 + 1) = 2 := rfl
  have w3 : IntKind.i64.wrap (2 + 1) = 3 := rfl
  by_cases h1 : a = 0
  · by_cases h2 : b = 0
    · by_cases h3 : c = 0
      · (repeat (first
    | refine RX_seq ?_
    | refine RX_block ?_
    | ((first | refine RX_reg ?_ | refine RX_cond' ?_ | refine RX_draw0 ?_ | refine RX_draw rfl ?_ | refine RX_skip ?_ | refine RX_exit ?_ | refine RX_ret ?_); try (simp only [go_sem, Int.reduceToNat, Nat.reducePow, Int.reduceEq, Int.reduceNe, Int.reduceLT, Int.reduceLE, Nat.reduceAdd, Nat.reduceLeDiff, ↓reduceIte, Nat.reduceLT, Nat.reduceMul, Nat.reduceSub, reduceCtorEq, frzLoc, rowCells, vAppM, beq_iff_eq, bne_iff_ne, bne_self_eq_false, beq_self_eq_true, beq_true, beq_false, I, B, w, vf240_res, vf240_keep, h1, h2, h3]))))
        refine RX_loop ?_
        (refine RL_head ?_; (simp only [go_sem, Int.reduceToNat, Nat.reducePow, Int.reduceEq, Int.reduceNe, Int.reduceLT, Int.reduceLE, Nat.reduceAdd, Nat.reduceLeDiff, ↓reduceIte, Nat.reduceLT, Nat.reduceMul, Nat.reduceSub, reduceCtorEq, frzLoc, rowCells, vAppM, beq_iff_eq, bne_iff_ne, bne_self_eq_false, beq_self_eq_true, beq_true, beq_false, I, B, w, St.head, forget, vf240K0, RLK_some, vf240_res, vf240_keep, h1, h2, h3, w1]); refine vf240L0_go ?_; ((repeat (first
    | refine RX_seq ?_
    | refine RX_block ?_
    | ((first | refine RX_reg ?_ | refine RX_cond' ?_ | refine RX_draw0 ?_ | refine RX_draw rfl ?_ | refine RX_skip ?_ | refine RX_exit ?_ | refine RX_ret ?_); try (simp only [go_sem, Int.reduceToNat, Nat.reducePow, Int.reduceEq, Int.reduceNe, Int.reduceLT, Int.reduceLE, Nat.reduceAdd, Nat.reduceLeDiff, ↓reduceIte, Nat.reduceLT, Nat.reduceMul, Nat.reduceSub, reduceCtorEq, frzLoc, rowCells, vAppM, beq_iff_eq, bne_iff_ne, bne_self_eq_false, beq_self_eq_true, beq_true, beq_false, I, B, w, vf240_res, vf240_keep, h1, h2, h3, w1]))))))
        (refine RL_head ?_; (simp only [go_sem, Int.reduceToNat, Nat.reducePow, Int.reduceEq, Int.reduceNe, Int.reduceLT, Int.reduceLE, Nat.reduceAdd, Nat.reduceLeDiff, ↓reduceIte, Nat.reduceLT, Nat.reduceMul, Nat.reduceSub, reduceCtorEq, frzLoc, rowCells, vAppM, beq_iff_eq, bne_iff_ne, bne_self_eq_false, beq_self_eq_true, beq_true, beq_false, I, B, w, St.head, forget, vf240K0, RLK_some, vf240_res, vf240_keep, h1, h2, h3, w2]); refine vf240L0_go ?_; ((repeat (first
    | refine RX_seq ?_
    | refine RX_block ?_
    | ((first | refine RX_reg ?_ | refine RX_cond' ?_ | refine RX_draw0 ?_ | refine RX_draw rfl ?_ | refine RX_skip ?_ | refine RX_exit ?_ | refine RX_ret ?_); try (simp only [go_sem, Int.reduceToNat, Nat.reducePow, Int.reduceEq, Int.reduceNe, Int.reduceLT, Int.reduceLE, Nat.reduceAdd, Nat.reduceLeDiff, ↓reduceIte, Nat.reduceLT, Nat.reduceMul, Nat.reduceSub, reduceCtorEq, frzLoc, rowCells, vAppM, beq_iff_eq, bne_iff_ne, bne_self_eq_false, beq_self_eq_true, beq_true, beq_false, I, B, w, vf240_res, vf240_keep, h1, h2, h3, w2]))))))
        (refine RL_head ?_; (simp only [go_sem, Int.reduceToNat, Nat.reducePow, Int.reduceEq, Int.reduceNe, Int.reduceLT, Int.reduceLE, Nat.reduceAdd, Nat.reduceLeDiff, ↓reduceIte, Nat.reduceLT, Nat.reduceMul, Nat.reduceSub, reduceCtorEq, frzLoc, rowCells, vAppM, beq_iff_eq, bne_iff_ne, bne_self_eq_false, beq_self_eq_true, beq_true, beq_false, I, B, w, St.head, forget, vf240K0, RLK_some, vf240_res, vf240_keep, h1, h2, h3, w3]); refine vf240L0_go ?_; ((repeat (first
    | refine RX_seq ?_
    | refine RX_block ?_
    | ((first | refine RX_reg ?_ | refine RX_cond' ?_ | refine RX_draw0 ?_ | refine RX_draw rfl ?_ | refine RX_skip ?_ | refine RX_exit ?_ | refine RX_ret ?_); try (simp only [go_sem, Int.reduceToNat, Nat.reducePow, Int.reduceEq, Int.reduceNe, Int.reduceLT, Int.reduceLE, Nat.reduceAdd, Nat.reduceLeDiff, ↓reduceIte, Nat.reduceLT, Nat.reduceMul, Nat.reduceSub, reduceCtorEq, frzLoc, rowCells, vAppM, beq_iff_eq, bne_iff_ne, bne_self_eq_false, beq_self_eq_true, beq_true, beq_false, I, B, w, vf240_res, vf240_keep, h1, h2, h3, w3]))))))
        (refine RL_head ?_; (simp only [go_sem, Int.reduceToNat, Nat.reducePow, Int.reduceEq, Int.reduceNe, Int.reduceLT, Int.reduceLE, Nat.reduceAdd, Nat.reduceLeDiff, ↓reduceIte, Nat.reduceLT, Nat.reduceMul, Nat.reduceSub, reduceCtorEq, frzLoc, rowCells, vAppM, beq_iff_eq, bne_iff_ne, bne_self_eq_false, beq_self_eq_true, beq_true, beq_false, I, B, w, St.head, forget, vf240K0, RLK_some, vf240_res, vf240_keep, h1, h2, h3]); refine vf240L0_go ?_; ((repeat (first
    | refine RX_seq ?_
    | refine RX_block ?_
    | ((first | refine RX_reg ?_ | refine RX_cond' ?_ | refine RX_draw0 ?_ | refine RX_draw rfl ?_ | refine RX_skip ?_ | refine RX_exit ?_ | refine RX_ret ?_); try (simp only [go_sem, Int.reduceToNat, Nat.reducePow, Int.reduceEq, Int.reduceNe, Int.reduceLT, Int.reduceLE, Nat.reduceAdd, Nat.reduceLeDiff, ↓reduceIte, Nat.reduceLT, Nat.reduceMul, Nat.reduceSub, reduceCtorEq, frzLoc, rowCells, vAppM, beq_iff_eq, bne_iff_ne, bne_self_eq_false, beq_self_eq_true, beq_true, beq_false, I, B, w, vf240_res, vf240_keep, h1, h2, h3]))))))
      · (repeat (first
    | refine RX_seq ?_
    | refine RX_block ?_
    | ((first | refine RX_reg ?_ | refine RX_cond' ?_ | refine RX_draw0 ?_ | refine RX_draw rfl ?_ | refine RX_skip ?_ | refine RX_exit ?_ | refine RX_ret ?_); try (simp only [go_sem, Int.reduceToNat, Nat.reducePow, Int.reduceEq, Int.reduceNe, Int.reduceLT, Int.reduceLE, Nat.reduceAdd, Nat.reduceLeDiff, ↓reduceIte, Nat.reduceLT, Nat.reduceMul, Nat.reduceSub, reduceCtorEq, frzLoc, rowCells, vAppM, beq_iff_eq, bne_iff_ne, bne_self_eq_false, beq_self_eq_true, beq_true, beq_false, I, B, w, vf240_res, vf240_keep, h1, h2, h3]))))
        refine RX_loop ?_
        (refine RL_head ?_; (simp only [go_sem, Int.reduceToNat, Nat.reducePow, Int.reduceEq, Int.reduceNe, Int.reduceLT, Int.reduceLE, Nat.reduceAdd, Nat.reduceLeDiff, ↓reduceIte, Nat.reduceLT, Nat.reduceMul, Nat.reduceSub, reduceCtorEq, frzLoc, rowCells, vAppM, beq_iff_eq, bne_iff_ne, bne_self_eq_false, beq_self_eq_true, beq_true, beq_false, I, B, w, St.head, forget, vf240K0, RLK_some, vf240_res, vf240_keep, h1, h2, h3, w1]); refine vf240L0_go ?_; ((repeat (first
    | refine RX_seq ?_
    | refine RX_block ?_
    | ((first | refine RX_reg ?_ | refine RX_cond' ?_ | refine RX_draw0 ?_ | refine RX_draw rfl ?_ | refine RX_skip ?_ | refine RX_exit ?_ | refine RX_ret ?_); try (simp only [go_sem, Int.reduceToNat, Nat.reducePow, Int.reduceEq, Int.reduceNe, Int.reduceLT, Int.reduceLE, Nat.reduceAdd, Nat.reduceLeDiff, ↓reduceIte, Nat.reduceLT, Nat.reduceMul, Nat.reduceSub, reduceCtorEq, frzLoc, rowCells, vAppM, beq_iff_eq, bne_iff_ne, bne_self_eq_false, beq_self_eq_true, beq_true, beq_false, I, B, w, vf240_res, vf240_keep, h1, h2, h3, w1]))))))
        (refine RL_head ?_; (simp only [go_sem, Int.reduceToNat, Nat.reducePow, Int.reduceEq, Int.reduceNe, Int.reduceLT, Int.reduceLE, Nat.reduceAdd, Nat.reduceLeDiff, ↓reduceIte, Nat.reduceLT, Nat.reduceMul, Nat.reduceSub, reduceCtorEq, frzLoc, rowCells, vAppM, beq_iff_eq, bne_iff_ne, bne_self_eq_false, beq_self_eq_true, beq_true, beq_false, I, B, w, St.head, forget, vf240K0, RLK_some, vf240_res, vf240_keep, h1, h2, h3, w2]); refine vf240L0_go ?_; ((repeat (first
    | refine RX_seq ?_
    | refine RX_block ?_
    | ((first | refine RX_reg ?_ | refine RX_cond' ?_ | refine RX_draw0 ?_ | refine RX_draw rfl ?_ | refine RX_skip ?_ | refine RX_exit ?_ | refine RX_ret ?_); try (simp only [go_sem, Int.reduceToNat, Nat.reducePow, Int.reduceEq, Int.reduceNe, Int.reduceLT, Int.reduceLE, Nat.reduceAdd, Nat.reduceLeDiff, ↓reduceIte, Nat.reduceLT, Nat.reduceMul, Nat.reduceSub, reduceCtorEq, frzLoc, rowCells, vAppM, beq_iff_eq, bne_iff_ne, bne_self_eq_false, beq_self_eq_true, beq_true, beq_false, I, B, w, vf240_res, vf240_keep, h1, h2, h3, w2]))))))
        (refine RL_head ?_; (simp only [go_sem, Int.reduceToNat, Nat.reducePow, Int.reduceEq, Int.reduceNe, Int.reduceLT, Int.reduceLE, Nat.reduceAdd, Nat.reduceLeDiff, ↓reduceIte, Nat.reduceLT, Nat.reduceMul, Nat.reduceSub, reduceCtorEq, frzLoc, rowCells, vAppM, beq_iff_eq, bne_iff_ne, bne_self_eq_false, beq_self_eq_true, beq_true, beq_false, I, B, w, St.head, forget, vf240K0, RLK_some, vf240_res, vf240_keep, h1, h2, h3]); refine vf240L0_go ?_; ((repeat (first
    | refine RX_seq ?_
    | refine RX_block ?_
    | ((first | refine RX_reg ?_ | refine RX_cond' ?_ | refine RX_draw0 ?_ | refine RX_draw rfl ?_ | refine RX_skip ?_ | refine RX_exit ?_ | refine RX_ret ?_); try (simp only [go_sem, Int.reduceToNat, Nat.reducePow, Int.reduceEq, Int.reduceNe, Int.reduceLT, Int.reduceLE, Nat.reduceAdd, Nat.reduceLeDiff, ↓reduceIte, Nat.reduceLT, Nat.reduceMul, Nat.reduceSub, reduceCtorEq, frzLoc, rowCells, vAppM, beq_iff_eq, bne_iff_ne, bne_self_eq_false, beq_self_eq_true, beq_true, beq_false, I, B, w, vf240_res, vf240_keep, h1, h2, h3]))))))
    · (repeat (first
    | refine RX_seq ?_
    | refine RX_block ?_
    | ((first | refine RX_reg ?_ | refine RX_cond' ?_ | refine RX_draw0 ?_ | refine RX_draw rfl ?_ | refine RX_skip ?_ | refine RX_exit ?_ | refine RX_ret ?_); try (simp only [go_sem, Int.reduceToNat, Nat.reducePow, Int.reduceEq, Int.reduceNe, Int.reduceLT, Int.reduceLE, Nat.reduceAdd, Nat.reduceLeDiff, ↓reduceIte, Nat.reduceLT, Nat.reduceMul, Nat.reduceSub, reduceCtorEq, frzLoc, rowCells, vAppM, beq_iff_eq, bne_iff_ne, bne_self_eq_false, beq_self_eq_true, beq_true, beq_false, I, B, w, vf240_res, vf240_keep, h1, h2]))))
      refine RX_loop ?_
      (refine RL_head ?_; (simp only [go_sem, Int.reduceToNat, Nat.reducePow, Int.reduceEq, Int.reduceNe, Int.reduceLT, Int.reduceLE, Nat.reduceAdd, Nat.reduceLeDiff, ↓reduceIte, Nat.reduceLT, Nat.reduceMul, Nat.reduceSub, reduceCtorEq, frzLoc, rowCells, vAppM, beq_iff_eq, bne_iff_ne, bne_self_eq_false, beq_self_eq_true, beq_true, beq_false, I, B, w, St.head, forget, vf240K0, RLK_some, vf240_res, vf240_keep, h1, h2, w1]); refine vf240L0_go ?_; ((repeat (first
    | refine RX_seq ?_
    | refine RX_block ?_
    | ((first | refine RX_reg ?_ | refine RX_cond' ?_ | refine RX_draw0 ?_ | refine RX_draw rfl ?_ | refine RX_skip ?_ | refine RX_exit ?_ | refine RX_ret ?_); try (simp only [go_sem, Int.reduceToNat, Nat.reducePow, Int.reduceEq, Int.reduceNe, Int.reduceLT, Int.reduceLE, Nat.reduceAdd, Nat.reduceLeDiff, ↓reduceIte, Nat.reduceLT, Nat.reduceMul, Nat.reduceSub, reduceCtorEq, frzLoc, rowCells, vAppM, beq_iff_eq, bne_iff_ne, bne_self_eq_false, beq_self_eq_true, beq_true, beq_false, I, B, w, vf240_res, vf240_keep, h1, h2, w1]))))))
      (refine RL_head ?_; (simp only [go_sem, Int.reduceToNat, Nat.reducePow, Int.reduceEq, Int.reduceNe, Int.reduceLT, Int.reduceLE, Nat.reduceAdd, Nat.reduceLeDiff, ↓reduceIte, Nat.reduceLT, Nat.reduceMul, Nat.reduceSub, reduceCtorEq, frzLoc, rowCells, vAppM, beq_iff_eq, bne_iff_ne, bne_self_eq_false, beq_self_eq_true, beq_true, beq_false, I, B, w, St.head, forget, vf240K0, RLK_some, vf240_res, vf240_keep, h1, h2, w2]); refine vf240L0_go ?_; ((repeat (first
    | refine RX_seq ?_
    | refine RX_block ?_
    | ((first | refine RX_reg ?_ | refine RX_cond' ?_ | refine RX_draw0 ?_ | refine RX_draw rfl ?_ | refine RX_skip ?_ | refine RX_exit ?_ | refine RX_ret ?_); try (simp only [go_sem, Int.reduceToNat, Nat.reducePow, Int.reduceEq, Int.reduceNe, Int.reduceLT, Int.reduceLE, Nat.reduceAdd, Nat.reduceLeDiff, ↓reduceIte, Nat.reduceLT, Nat.reduceMul, Nat.reduceSub, reduceCtorEq, frzLoc, rowCells, vAppM, beq_iff_eq, bne_iff_ne, bne_self_eq_false, beq_self_eq_true, beq_true, beq_false, I, B, w, vf240_res, vf240_keep, h1, h2, w2]))))))
  · (repeat (first
    | refine RX_seq ?_
    | refine RX_block ?_
    | ((first | refine RX_reg ?_ | refine RX_cond' ?_ | refine RX_draw0 ?_ | refine RX_draw rfl ?_ | refine RX_skip ?_ | refine RX_exit ?_ | refine RX_ret ?_); try (simp only [go_sem, Int.reduceToNat, Nat.reducePow, Int.reduceEq, Int.reduceNe, Int.reduceLT, Int.reduceLE, Nat.reduceAdd, Nat.reduceLeDiff, ↓reduceIte, Nat.reduceLT, Nat.reduceMul, Nat.reduceSub, reduceCtorEq, frzLoc, rowCells, vAppM, beq_iff_eq, bne_iff_ne, bne_self_eq_false, beq_self_eq_true, beq_true, beq_false, I, B, w, vf240_res, vf240_keep, h1]))))
    refine RX_loop ?_
    (refine RL_head ?_; (simp only [go_sem, Int.reduceToNat, Nat.reducePow, Int.reduceEq, Int.reduceNe, Int.reduceLT, Int.reduceLE, Nat.reduceAdd, Nat.reduceLeDiff, ↓reduceIte, Nat.reduceLT, Nat.reduceMul, Nat.reduceSub, reduceCtorEq, frzLoc, rowCells, vAppM, beq_iff_eq, bne_iff_ne, bne_self_eq_false, beq_self_eq_true, beq_true, beq_false, I, B, w, St.head, forget, vf240K0, RLK_some, vf240_res, vf240_keep, h1, w1]); refine vf240L0_go ?_; ((repeat (first
    | refine RX_seq ?_
    | refine RX_block ?_
    | ((first | refine RX_reg ?_ | refine RX_cond' ?_ | refine RX_draw0 ?_ | refine RX_draw rfl ?_ | refine RX_skip ?_ | refine RX_exit ?_ | refine RX_ret ?_); try (simp only [go_sem, Int.reduceToNat, Nat.reducePow, Int.reduceEq, Int.reduceNe, Int.reduceLT, Int.reduceLE, Nat.reduceAdd, Nat.reduceLeDiff, ↓reduceIte, Nat.reduceLT, Nat.reduceMul, Nat.reduceSub, reduceCtorEq, frzLoc, rowCells, vAppM, beq_iff_eq, bne_iff_ne, bne_self_eq_false, beq_self_eq_true, beq_true, beq_false, I, B, w, vf240_res, vf240_keep, h1, w1]))))))
theorem e131 (f h a f' h' b : Int) : CV VP 233 [.agg [.d (I f), .d (U h), .d (U a)], .agg [.d (I f'), .d (U h'), .d (U b)]] [] = some ⟨.d (I (or3 (cmpI f f') (cmpI h h') (cmpI a b))), [], [], 0⟩ := by
  refine CV_run (vf := vf233) rfl rfl ?_
  rw [vf233_start]
  (repeat (first
    | refine RX_seq ?_
    | refine RX_block ?_
    | ((first | refine RX_reg ?_ | refine RX_cond' ?_ | refine RX_draw0 ?_ | refine RX_draw rfl ?_ | refine RX_skip ?_ | refine RX_exit ?_ | refine RX_ret ?_); try (simp only [go_sem, Int.reduceToNat, Nat.reducePow, Int.reduceEq, Int.reduceNe, Int.reduceLT, Int.reduceLE, Nat.reduceAdd, Nat.reduceLeDiff, ↓reduceIte, Nat.reduceLT, Nat.reduceMul, Nat.reduceSub, reduceCtorEq, frzLoc, rowCells, vAppM, beq_iff_eq, bne_iff_ne, bne_self_eq_false, beq_self_eq_true, beq_true, beq_false, I, B, w, vf233_res, vf233_keep, e133, e134, e132]))))
theorem e130 (n : Int) : CV VP 232 [.d (I n)] [] = some ⟨.agg [.d (I 0), .d (U 0), .d (U (IntKind.u64.wrap (IntKind.i64.wrap (n + 1))))], [], [], 0⟩ := by
  refine CV_run (vf := vf232) rfl rfl ?_
  rw [vf232_start]
  (repeat (first
    | refine RX_seq ?_
    | refine RX_block ?_
    | ((first | refine RX_reg ?_ | refine RX_cond' ?_ | refine RX_draw0 ?_ | refine RX_draw rfl ?_ | refine RX_skip ?_ | refine RX_exit ?_ | refine RX_ret ?_); try (simp only [go_sem, Int.reduceToNat, Nat.reducePow, Int.reduceEq, Int.reduceNe, Int.reduceLT, Int.reduceLE, Nat.reduceAdd, Nat.reduceLeDiff, ↓reduceIte, Nat.reduceLT, Nat.reduceMul, Nat.reduceSub, reduceCtorEq, frzLoc, rowCells, vAppM, beq_iff_eq, bne_iff_ne, bne_self_eq_false, beq_self_eq_true, beq_true, beq_false, I, B, w, vf232_res, vf232_keep]))))
theorem e129 (n : Int) : CV VP 219 [.d (I n)] [] = some ⟨.agg [.d (I 0), .d (U 0), .d (U (IntKind.u64.wrap (IntKind.i64.wrap (n + 1))))], [], [], 0⟩ := by
  refine CV_run (vf := vf219) rfl rfl ?_
  rw [vf219_start]
  (repeat (first
    | refine RX_seq ?_
    | refine RX_block ?_
    | ((first | refine RX_reg ?_ | refine RX_cond' ?_ | refine RX_draw0 ?_ | refine RX_draw rfl ?_ | refine RX_skip ?_ | refine RX_exit ?_ | refine RX_ret ?_); try (simp only [go_sem, Int.reduceToNat, Nat.reducePow, Int.reduceEq, Int.reduceNe, Int.reduceLT, Int.reduceLE, Nat.reduceAdd, Nat.reduceLeDiff, ↓reduceIte, Nat.reduceLT, Nat.reduceMul, Nat.reduceSub, reduceCtorEq, frzLoc, rowCells, vAppM, beq_iff_eq, bne_iff_ne, bne_self_eq_false, beq_self_eq_true, beq_true, beq_false, I, B, w, vf219_res, vf219_keep]))))
theorem e128 (f h a : Int) : CV VP 217 [.agg [.d (I f), .d (U h), .d (U a)]] [] = some ⟨.d (I (w (w a - 1))), [], [], 0⟩ := by
  refine CV_run (vf := vf217) rfl rfl ?_
  rw [vf217_start]
  (repeat (first
    | refine RX_seq ?_
    | refine RX_block ?_
    | ((first | refine RX_reg ?_ | refine RX_cond' ?_ | refine RX_draw0 ?_ | refine RX_draw rfl ?_ | refine RX_skip ?_ | refine RX_exit ?_ | refine RX_ret ?_); try (simp only [go_sem, Int.reduceToNat, Nat.reducePow, Int.reduceEq, Int.reduceNe, Int.reduceLT, Int.reduceLE, Nat.reduceAdd, Nat.reduceLeDiff, ↓reduceIte, Nat.reduceLT, Nat.reduceMul, Nat.reduceSub, reduceCtorEq, frzLoc, rowCells, vAppM, beq_iff_eq, bne_iff_ne, bne_self_eq_false, beq_self_eq_true, beq_true, beq_false, I, B, w, vf217_res, vf217_keep]))))
theorem e127 (f h a : Int) : CV VP 216 [.agg [.d (I f), .d (U h), .d (U a)]] [] = some ⟨.agg [.d (I f), .d (U h), .d (U a)], [], [], 0⟩ := by
  refine CV_run (vf := vf216) rfl rfl ?_
  rw [vf216_start]
  (repeat (first
    | refine RX_seq ?_
    | refine RX_block ?_
    | ((first | refine RX_reg ?_ | refine RX_cond' ?_ | refine RX_draw0 ?_ | refine RX_draw rfl ?_ | refine RX_skip ?_ | refine RX_exit ?_ | refine RX_ret ?_); try (simp only [go_sem, Int.reduceToNat, Nat.reducePow, Int.reduceEq, Int.reduceNe, Int.reduceLT, Int.reduceLE, Nat.reduceAdd, Nat.reduceLeDiff, ↓reduceIte, Nat.reduceLT, Nat.reduceMul, Nat.reduceSub, reduceCtorEq, frzLoc, rowCells, vAppM, beq_iff_eq, bne_iff_ne, bne_self_eq_false, beq_self_eq_true, beq_true, beq_false, I, B, w, vf216_res, vf216_keep]))))
theorem e124 (f h a : Int) : CV VP 213 [.agg [.d (I f), .d (U h), .d (U a)]] [] = some ⟨.agg [.d (I f), .d (U h), .d (U a)], [], [], 0⟩ := by
  refine CV_run (vf := vf213) rfl rfl ?_
  rw [vf213_start]
  (repeat (first
    | refine RX_seq ?_
    | refine RX_block ?_
    | ((first | refine RX_reg ?_ | refine RX_cond' ?_ | refine RX_draw0 ?_ | refine RX_draw rfl ?_ | refine RX_skip ?_ | refine RX_exit ?_ | refine RX_ret ?_); try (simp only [go_sem, Int.reduceToNat, Nat.reducePow, Int.reduceEq, Int.reduceNe, Int.reduceLT, Int.reduceLE, Nat.reduceAdd, Nat.reduceLeDiff, ↓reduceIte, Nat.reduceLT, Nat.reduceMul, Nat.reduceSub, reduceCtorEq, frzLoc, rowCells, vAppM, beq_iff_eq, bne_iff_ne, bne_self_eq_false, beq_self_eq_true, beq_true, beq_false, I, B, w, vf213_res, vf213_keep]))))
theorem e125 (m n : Int) : CV VP 214 [.d (I m), .d (I n)] [] = some ⟨.agg [.d (I 0), .d (U 0), .d (U (IntKind.u64.wrap (IntKind.i64.wrap (m + 1)))), .d (I 0), .d (U 0), .d (U (IntKind.u64.wrap (IntKind.i64.wrap (n + 1))))], [], [], 0⟩ := by
  refine CV_run (vf := vf214) rfl rfl ?_
  rw [vf214_start]
  (repeat (first
    | refine RX_seq ?_
    | refine RX_block ?_
    | ((first | refine RX_reg ?_ | refine RX_cond' ?_ | refine RX_draw0 ?_ | refine RX_draw rfl ?_ | refine RX_skip ?_ | refine RX_exit ?_ | refine RX_ret ?_); try (simp only [go_sem, Int.reduceToNat, Nat.reducePow, Int.reduceEq, Int.reduceNe, Int.reduceLT, Int.reduceLE, Nat.reduceAdd, Nat.reduceLeDiff, ↓reduceIte, Nat.reduceLT, Nat.reduceMul, Nat.reduceSub, reduceCtorEq, frzLoc, rowCells, vAppM, beq_iff_eq, bne_iff_ne, bne_self_eq_false, beq_self_eq_true, beq_true, beq_false, I, B, w, vf214_res, vf214_keep, e130]))))
theorem e109t (f h a f' h' b : Int) : CV VP 151 [.agg [.d (I f), .d (U h), .d (U a)], .agg [.d (I f'), .d (U h'), .d (U b)]] [] = some ⟨.d (B (if f ≠ f' then decide (f < f') else if h ≠ h' then decide (h < h') else decide (a < b))), [], [], 0⟩ := by
  refine CV_run (vf := vf151) rfl rfl ?_
  rw [vf151_start]
  by_cases h1 : f = f'
  · by_cases h2 : h = h'
    · (repeat (first
    | refine RX_seq ?_
    | refine RX_block ?_
    | ((first | refine RX_reg ?_ | refine RX_cond' ?_ | refine RX_draw0 ?_ | refine RX_draw rfl ?_ | refine RX_skip ?_ | refine RX_exit ?_ | refine RX_ret ?_); try (simp only [go_sem, Int.reduceToNat, Nat.reducePow, Int.reduceEq, Int.reduceNe, Int.reduceLT, Int.reduceLE, Nat.reduceAdd, Nat.reduceLeDiff, ↓reduceIte, Nat.reduceLT, Nat.reduceMul, Nat.reduceSub, reduceCtorEq, frzLoc, rowCells, vAppM, beq_iff_eq, bne_iff_ne, bne_self_eq_false, beq_self_eq_true, beq_true, beq_false, I, B, w, vf151_res, vf151_keep, h1, h2]))))
    · (repeat (first
    | refine RX_seq ?_
    | refine RX_block ?_
    | ((first | refine RX_reg ?_ | refine RX_cond' ?_ | refine RX_draw0 ?_ | refine RX_draw rfl ?_ | refine RX_skip ?_ | refine RX_exit ?_ | refine RX_ret ?_); try (simp only [go_sem, Int.reduceToNat, Nat.reducePow, Int.reduceEq, Int.reduceNe, Int.reduceLT, Int.reduceLE, Nat.reduceAdd, Nat.reduceLeDiff, ↓reduceIte, Nat.reduceLT, Nat.reduceMul, Nat.reduceSub, reduceCtorEq, frzLoc, rowCells, vAppM, beq_iff_eq, bne_iff_ne, bne_self_eq_false, beq_self_eq_true, beq_true, beq_false, I, B, w, vf151_res, vf151_keep, h1, h2]))))
  · (repeat (first
    | refine RX_seq ?_
    | refine RX_block ?_
    | ((first | refine RX_reg ?_ | refine RX_cond' ?_ | refine RX_draw0 ?_ | refine RX_draw rfl ?_ | refine RX_skip ?_ | refine RX_exit ?_ | refine RX_ret ?_); try (simp only [go_sem, Int.reduceToNat, Nat.reducePow, Int.reduceEq, Int.reduceNe, Int.reduceLT, Int.reduceLE, Nat.reduceAdd, Nat.reduceLeDiff, ↓reduceIte, Nat.reduceLT, Nat.reduceMul, Nat.reduceSub, reduceCtorEq, frzLoc, rowCells, vAppM, beq_iff_eq, bne_iff_ne, bne_self_eq_false, beq_self_eq_true, beq_true, beq_false, I, B, w, vf151_res, vf151_keep, h1]))))
end Go.Proofs.Ytciaehhaglaafaa

namespace Go.Proofs.Ytciaehhaglaafaa
open Go.VM
theorem cmpI_self (a : Int) : cmpI a a = 0 := by simp [cmpI]
theorem or3_00 (x : Int) : or3 0 0 x = x := by simp [or3]
theorem cmpI_pos {a b : Int} : (0 < cmpI a b) ↔ (b < a) := by
  unfold cmpI
  split
  · omega
  · split <;> omega
theorem cmpI_neg {a b : Int} : (cmpI a b < 0) ↔ (a < b) := by
  unfold cmpI
  split
  · omega
  · split <;> omega
theorem cmpI_le {a b : Int} : (cmpI a b ≤ 0) ↔ (a ≤ b) := by
  unfold cmpI
  split
  · omega
  · split <;> omega
theorem or3_lt {a b : Int} (h : a < b) (y z : Int) : or3 (cmpI a b) y z = -1 := by simp [or3, cmpI, h]
theorem or3_gt {a b : Int} (h : b < a) (y z : Int) : or3 (cmpI a b) y z = 1 := by
  have : ¬ a < b := by omega
  simp [or3, cmpI, h, this]
theorem e126 (f h a b c d : Int) : CV VP 215 [.agg [.d (I f), .d (U h), .d (U a), .d (I f), .d (U h), .d (U b)], .agg [.d (I f), .d (U h), .d (U c), .d (I f), .d (U h), .d (U d)]] [] = some ⟨.tup [.agg [.d (I f), .d (U h), .d (U (max a c)), .d (I f), .d (U h), .d (U (min b d))], .d (B (decide (max a c ≤ min b d)))], [], [], 0⟩ := by
  refine CV_run (vf := vf215) rfl rfl ?_
  rw [vf215_start]
  by_cases h1 : a < c
  · have m1 : max a c = c := by omega
    by_cases h2 : d < b
    · have m2 : min b d = d := by omega
      (repeat (first
    | refine RX_seq ?_
    | refine RX_block ?_
    | ((first | refine RX_reg ?_ | refine RX_cond' ?_ | refine RX_draw0 ?_ | refine RX_draw rfl ?_ | refine RX_skip ?_ | refine RX_exit ?_ | refine RX_ret ?_); try (simp only [go_sem, Int.reduceToNat, Nat.reducePow, Int.reduceEq, Int.reduceNe, Int.reduceLT, Int.reduceLE, Nat.reduceAdd, Nat.reduceLeDiff, ↓reduceIte, Nat.reduceLT, Nat.reduceMul, Nat.reduceSub, reduceCtorEq, frzLoc, rowCells, vAppM, beq_iff_eq, bne_iff_ne, bne_self_eq_false, beq_self_eq_true, beq_true, beq_false, I, B, w, vf215_res, vf215_keep, e131, cmpI_self, or3_00, cmpI_pos, cmpI_neg, cmpI_le, gt_iff_lt, h1, h2, m1, m2]))))
    · have m2 : min b d = b := by omega
      (repeat (first
    | refine RX_seq ?_
    | refine RX_block ?_
    | ((first | refine RX_reg ?_ | refine RX_cond' ?_ | refine RX_draw0 ?_ | refine RX_draw rfl ?_ | refine RX_skip ?_ | refine RX_exit ?_ | refine RX_ret ?_); try (simp only [go_sem, Int.reduceToNat, Nat.reducePow, Int.reduceEq, Int.reduceNe, Int.reduceLT, Int.reduceLE, Nat.reduceAdd, Nat.reduceLeDiff, ↓reduceIte, Nat.reduceLT, Nat.reduceMul, Nat.reduceSub, reduceCtorEq, frzLoc, rowCells, vAppM, beq_iff_eq, bne_iff_ne, bne_self_eq_false, beq_self_eq_true, beq_true, beq_false, I, B, w, vf215_res, vf215_keep, e131, cmpI_self, or3_00, cmpI_pos, cmpI_neg, cmpI_le, gt_iff_lt, h1, h2, m1, m2]))))
  · have m1 : max a c = a := by omega
    by_cases h2 : d < b
    · have m2 : min b d = d := by omega
      (repeat (first
    | refine RX_seq ?_
    | refine RX_block ?_
    | ((first | refine RX_reg ?_ | refine RX_cond' ?_ | refine RX_draw0 ?_ | refine RX_draw rfl ?_ | refine RX_skip ?_ | refine RX_exit ?_ | refine RX_ret ?_); try (simp only [go_sem, Int.reduceToNat, Nat.reducePow, Int.reduceEq, Int.reduceNe, Int.reduceLT, Int.reduceLE, Nat.reduceAdd, Nat.reduceLeDiff, ↓reduceIte, Nat.reduceLT, Nat.reduceMul, Nat.reduceSub, reduceCtorEq, frzLoc, rowCells, vAppM, beq_iff_eq, bne_iff_ne, bne_self_eq_false, beq_self_eq_true, beq_true, beq_false, I, B, w, vf215_res, vf215_keep, e131, cmpI_self, or3_00, cmpI_pos, cmpI_neg, cmpI_le, gt_iff_lt, h1, h2, m1, m2]))))
    · have m2 : min b d = b := by omega
      (repeat (first
    | refine RX_seq ?_
    | refine RX_block ?_
    | ((first | refine RX_reg ?_ | refine RX_cond' ?_ | refine RX_draw0 ?_ | refine RX_draw rfl ?_ | refine RX_skip ?_ | refine RX_exit ?_ | refine RX_ret ?_); try (simp only [go_sem, Int.reduceToNat, Nat.reducePow, Int.reduceEq, Int.reduceNe, Int.reduceLT, Int.reduceLE, Nat.reduceAdd, Nat.reduceLeDiff, ↓reduceIte, Nat.reduceLT, Nat.reduceMul, Nat.reduceSub, reduceCtorEq, frzLoc, rowCells, vAppM, beq_iff_eq, bne_iff_ne, bne_self_eq_false, beq_self_eq_true, beq_true, beq_false, I, B, w, vf215_res, vf215_keep, e131, cmpI_self, or3_00, cmpI_pos, cmpI_neg, cmpI_le, gt_iff_lt, h1, h2, m1, m2]))))
theorem e126l (f h a b f' h' c d : Int) (hf : f < f') : CV VP 215 [.agg [.d (I f), .d (U h), .d (U a), .d (I f), .d (U h), .d (U b)], .agg [.d (I f'), .d (U h'), .d (U c), .d (I f'), .d (U h'), .d (U d)]] [] = some ⟨.tup [.agg [.d (I f'), .d (U h'), .d (U c), .d (I f), .d (U h), .d (U b)], .d (B false)], [], [], 0⟩ := by
  refine CV_run (vf := vf215) rfl rfl ?_
  rw [vf215_start]
  (repeat (first
    | refine RX_seq ?_
    | refine RX_block ?_
    | ((first | refine RX_reg ?_ | refine RX_cond' ?_ | refine RX_draw0 ?_ | refine RX_draw rfl ?_ | refine RX_skip ?_ | refine RX_exit ?_ | refine RX_ret ?_); try (simp only [go_sem, Int.reduceToNat, Nat.reducePow, Int.reduceEq, Int.reduceNe, Int.reduceLT, Int.reduceLE, Nat.reduceAdd, Nat.reduceLeDiff, ↓reduceIte, Nat.reduceLT, Nat.reduceMul, Nat.reduceSub, reduceCtorEq, frzLoc, rowCells, vAppM, beq_iff_eq, bne_iff_ne, bne_self_eq_false, beq_self_eq_true, beq_true, beq_false, I, B, w, vf215_res, vf215_keep, e131, or3_lt hf, or3_gt hf, gt_iff_lt]))))
theorem e126g (f h a b f' h' c d : Int) (hf : f' < f) : CV VP 215 [.agg [.d (I f), .d (U h), .d (U a), .d (I f), .d (U h), .d (U b)], .agg [.d (I f'), .d (U h'), .d (U c), .d (I f'), .d (U h'), .d (U d)]] [] = some ⟨.tup [.agg [.d (I f), .d (U h), .d (U a), .d (I f'), .d (U h'), .d (U d)], .d (B false)], [], [], 0⟩ := by
  refine CV_run (vf := vf215) rfl rfl ?_
  rw [vf215_start]
  (repeat (first
    | refine RX_seq ?_
    | refine RX_block ?_
    | ((first | refine RX_reg ?_ | refine RX_cond' ?_ | refine RX_draw0 ?_ | refine RX_draw rfl ?_ | refine RX_skip ?_ | refine RX_exit ?_ | refine RX_ret ?_); try (simp only [go_sem, Int.reduceToNat, Nat.reducePow, Int.reduceEq, Int.reduceNe, Int.reduceLT, Int.reduceLE, Nat.reduceAdd, Nat.reduceLeDiff, ↓reduceIte, Nat.reduceLT, Nat.reduceMul, Nat.reduceSub, reduceCtorEq, frzLoc, rowCells, vAppM, beq_iff_eq, bne_iff_ne, bne_self_eq_false, beq_self_eq_true, beq_true, beq_false, I, B, w, vf215_res, vf215_keep, e131, or3_lt hf, or3_gt hf, gt_iff_lt]))))
theorem e112 (f h a0 a1 a2 a3 a4 b0 b1 b2 b3 b4 c0 c1 c2 c3 c4 d0 d1 d2 d3 d4 : Int) : CV VP 196 [.agg [.d (I f), .d (U h), .d (U a0), .d (I f), .d (U h), .d (U b0), .d (I f), .d (U h), .d (U a1), .d (I f), .d (U h), .d (U b1), .d (I 0), .d (U 0), .d (U a2), .d (I 0), .d (U 0), .d (U b2), .d (I 0), .d (U 0), .d (U a3), .d (I 0), .d (U 0), .d (U b3), .d (I 0), .d (U 0), .d (U a4), .d (I 0), .d (U 0), .d (U b4)], .agg [.d (I f), .d (U h), .d (U c0), .d (I f), .d (U h), .d (U d0), .d (I f), .d (U h), .d (U c1), .d (I f), .d (U h), .d (U d1), .d (I 0), .d (U 0), .d (U c2), .d (I 0), .d (U 0), .d (U d2), .d (I 0), .d (U 0), .d (U c3), .d (I 0), .d (U 0), .d (U d3), .d (I 0), .d (U 0), .d (U c4), .d (I 0), .d (U 0), .d (U d4)]] [] = some (if max a0 c0 ≤ min b0 d0 ∧ max a1 c1 ≤ min b1 d1 ∧ max a2 c2 ≤ min b2 d2 ∧ max a3 c3 ≤ min b3 d3 ∧ max a4 c4 ≤ min b4 d4 then ⟨.tup [.agg [.d (I f), .d (U h), .d (U (max a0 c0)), .d (I f), .d (U h), .d (U (min b0 d0)), .d (I f), .d (U h), .d (U (max a1 c1)), .d (I f), .d (U h), .d (U (min b1 d1)), .d (I 0), .d (U 0), .d (U (max a2 c2)), .d (I 0), .d (U 0), .d (U (min b2 d2)), .d (I 0), .d (U 0), .d (U (max a3 c3)), .d (I 0), .d (U 0), .d (U (min b3 d3)), .d (I 0), .d (U 0), .d (U (max a4 c4)), .d (I 0), .d (U 0), .d (U (min b4 d4))], .d (B true)], [], [], 0⟩ else ⟨.tup [.agg [.d (I 0), .d (U 0), .d (U 0), .d (I 0), .d (U 0), .d (U 0), .d (I 0), .d (U 0), .d (U 0), .d (I 0), .d (U 0), .d (U 0), .d (I 0), .d (U 0), .d (U 0), .d (I 0), .d (U 0), .d (U 0), .d (I 0), .d (U 0), .d (U 0), .d (I 0), .d (U 0), .d (U 0), .d (I 0), .d (U 0), .d (U 0), .d (I 0), .d (U 0), .d (U 0)], .d (B false)], [], [], 0⟩) := by
  have w1 : IntKind.i64.wrap (0 + 1) = 1 := rfl
  have w2 : IntKind.i64.wrap (1 + 1) = 2 := rfl
  have w3 : IntKind.i64.wrap (2 + 1) = 3 := rfl
  have w4 : IntKind.i64.wrap (3 + 1) = 4 := rfl
  have w5 : IntKind.i64.wrap (4 + 1) = 5 := rfl
  by_cases h0 : max a0 c0 ≤ min b0 d0
  · by_cases h1 : max a1 c1 ≤ min b1 d1
    · by_cases h2 : max a2 c2 ≤ min b2 d2
      · by_cases h3 : max a3 c3 ≤ min b3 d3
        · by_cases h4 : max a4 c4 ≤ min b4 d4
          · rw [if_pos ⟨h0, h1, h2, h3, h4⟩]
            refine CV_run (vf := vf196) rfl rfl ?_
            rw [vf196_start]
            (repeat (first
    | refine RX_seq ?_
    | refine RX_block ?_
    | ((first | refine RX_reg ?_ | refine RX_cond' ?_ | refine RX_draw0 ?_ | refine RX_draw rfl ?_ | refine RX_skip ?_ | refine RX_exit ?_ | refine RX_ret ?_); try (simp only [go_sem, Int.reduceToNat, Nat.reducePow, Int.reduceEq, Int.reduceNe, Int.reduceLT, Int.reduceLE, Nat.reduceAdd, Nat.reduceLeDiff, ↓reduceIte, Nat.reduceLT, Nat.reduceMul, Nat.reduceSub, reduceCtorEq, frzLoc, rowCells, vAppM, beq_iff_eq, bne_iff_ne, bne_self_eq_false, beq_self_eq_true, beq_true, beq_false, I, B, w, vf196_res, vf196_keep, e126]))))
            refine RX_loop ?_
            (refine RL_head ?_; (simp only [go_sem, Int.reduceToNat, Nat.reducePow, Int.reduceEq, Int.reduceNe, Int.reduceLT, Int.reduceLE, Nat.reduceAdd, Nat.reduceLeDiff, ↓reduceIte, Nat.reduceLT, Nat.reduceMul, Nat.reduceSub, reduceCtorEq, frzLoc, rowCells, vAppM, beq_iff_eq, bne_iff_ne, bne_self_eq_false, beq_self_eq_true, beq_true, beq_false, I, B, w, St.head, forget, vf196K0, RLK_some, vf196_res, vf196_keep, e126, h0, h1, h2, h3, h4, w1]); refine vf196L0_go ?_; ((repeat (first
    | refine RX_seq ?_
    | refine RX_block ?_
    | ((first | refine RX_reg ?_ | refine RX_cond' ?_ | refine RX_draw0 ?_ | refine RX_draw rfl ?_ | refine RX_skip ?_ | refine RX_exit ?_ | refine RX_ret ?_); try (simp only [go_sem, Int.reduceToNat, Nat.reducePow, Int.reduceEq, Int.reduceNe, Int.reduceLT, Int.reduceLE, Nat.reduceAdd, Nat.reduceLeDiff, ↓reduceIte, Nat.reduceLT, Nat.reduceMul, Nat.reduceSub, reduceCtorEq, frzLoc, rowCells, vAppM, beq_iff_eq, bne_iff_ne, bne_self_eq_false, beq_self_eq_true, beq_true, beq_false, I, B, w, vf196_res, vf196_keep, e126, h0, h1, h2, h3, h4, w1]))))))
            (refine RL_head ?_; (simp only [go_sem, Int.reduceToNat, Nat.reducePow, Int.reduceEq, Int.reduceNe, Int.reduceLT, Int.reduceLE, Nat.reduceAdd, Nat.reduceLeDiff, ↓reduceIte, Nat.reduceLT, Nat.reduceMul, Nat.reduceSub, reduceCtorEq, frzLoc, rowCells, vAppM, beq_iff_eq, bne_iff_ne, bne_self_eq_false, beq_self_eq_true, beq_true, beq_false, I, B, w, St.head, forget, vf196K0, RLK_some, vf196_res, vf196_keep, e126, h0, h1, h2, h3, h4, w2]); refine vf196L0_go ?_; ((repeat (first
    | refine RX_seq ?_
    | refine RX_block ?_
    | ((first | refine RX_reg ?_ | refine RX_cond' ?_ | refine RX_draw0 ?_ | refine RX_draw rfl ?_ | refine RX_skip ?_ | refine RX_exit ?_ | refine RX_ret ?_); try (simp only [go_sem, Int.reduceToNat, Nat.reducePow, Int.reduceEq, Int.reduceNe, Int.reduceLT, Int.reduceLE, Nat.reduceAdd, Nat.reduceLeDiff, ↓reduceIte, Nat.reduceLT, Nat.reduceMul, Nat.reduceSub, reduceCtorEq, frzLoc, rowCells, vAppM, beq_iff_eq, bne_iff_ne, bne_self_eq_false, beq_self_eq_true, beq_true, beq_false, I, B, w, vf196_res, vf196_keep, e126, h0, h1, h2, h3, h4, w2]))))))
            (refine RL_head ?_; (simp only [go_sem, Int.reduceToNat, Nat.reducePow, Int.reduceEq, Int.reduceNe, Int.reduceLT, Int.reduceLE, Nat.reduceAdd, Nat.reduceLeDiff, ↓reduceIte, Nat.reduceLT, Nat.reduceMul, Nat.reduceSub, reduceCtorEq, frzLoc, rowCells, vAppM, beq_iff_eq, bne_iff_ne, bne_self_eq_false, beq_self_eq_true, beq_true, beq_false, I, B, w, St.head, forget, vf196K0, RLK_some, vf196_res, vf196_keep, e126, h0, h1, h2, h3, h4, w3]); refine vf196L0_go ?_; ((repeat (first
    | refine RX_seq ?_
    | refine RX_block ?_
    | ((first | refine RX_reg ?_ | refine RX_cond' ?_ | refine RX_draw0 ?_ | refine RX_draw rfl ?_ | refine RX_skip ?_ | refine RX_exit ?_ | refine RX_ret ?_); try (simp only [go_sem, Int.reduceToNat, Nat.reducePow, Int.reduceEq, Int.reduceNe, Int.reduceLT, Int.reduceLE, Nat.reduceAdd, Nat.reduceLeDiff, ↓reduceIte, Nat.reduceLT, Nat.reduceMul, Nat.reduceSub, reduceCtorEq, frzLoc, rowCells, vAppM, beq_iff_eq, bne_iff_ne, bne_self_eq_false, beq_self_eq_true, beq_true, beq_false, I, B, w, vf196_res, vf196_keep, e126, h0, h1, h2, h3, h4, w3]))))))
            (refine RL_head ?_; (simp only [go_sem, Int.reduceToNat, Nat.reducePow, Int.reduceEq, Int.reduceNe, Int.reduceLT, Int.reduceLE, Nat.reduceAdd, Nat.reduceLeDiff, ↓reduceIte, Nat.reduceLT, Nat.reduceMul, Nat.reduceSub, reduceCtorEq, frzLoc, rowCells, vAppM, beq_iff_eq, bne_iff_ne, bne_self_eq_false, beq_self_eq_true, beq_true, beq_false, I, B, w, St.head, forget, vf196K0, RLK_some, vf196_res, vf196_keep, e126, h0, h1, h2, h3, h4, w4]); refine vf196L0_go ?_; ((repeat (first
    | refine RX_seq ?_
    | refine RX_block ?_
    | ((first | refine RX_reg ?_ | refine RX_cond' ?_ | refine RX_draw0 ?_ | refine RX_draw rfl ?_ | refine RX_skip ?_ | refine RX_exit ?_ | refine RX_ret ?_); try (simp only [go_sem, Int.reduceToNat, Nat.reducePow, Int.reduceEq, Int.reduceNe, Int.reduceLT, Int.reduceLE, Nat.reduceAdd, Nat.reduceLeDiff, ↓reduceIte, Nat.reduceLT, Nat.reduceMul, Nat.reduceSub, reduceCtorEq, frzLoc, rowCells, vAppM, beq_iff_eq, bne_iff_ne, bne_self_eq_false, beq_self_eq_true, beq_true, beq_false, I, B, w, vf196_res, vf196_keep, e126, h0, h1, h2, h3, h4, w4]))))))
            (refine RL_head ?_; (simp only [go_sem, Int.reduceToNat, Nat.reducePow, Int.reduceEq, Int.reduceNe, Int.reduceLT, Int.reduceLE, Nat.reduceAdd, Nat.reduceLeDiff, ↓reduceIte, Nat.reduceLT, Nat.reduceMul, Nat.reduceSub, reduceCtorEq, frzLoc, rowCells, vAppM, beq_iff_eq, bne_iff_ne, bne_self_eq_false, beq_self_eq_true, beq_true, beq_false, I, B, w, St.head, forget, vf196K0, RLK_some, vf196_res, vf196_keep, e126, h0, h1, h2, h3, h4, w5]); refine vf196L0_go ?_; ((repeat (first
    | refine RX_seq ?_
    | refine RX_block ?_
    | ((first | refine RX_reg ?_ | refine RX_cond' ?_ | refine RX_draw0 ?_ | refine RX_draw rfl ?_ | refine RX_skip ?_ | refine RX_exit ?_ | refine RX_ret ?_); try (simp only [go_sem, Int.reduceToNat, Nat.reducePow, Int.reduceEq, Int.reduceNe, Int.reduceLT, Int.reduceLE, Nat.reduceAdd, Nat.reduceLeDiff, ↓reduceIte, Nat.reduceLT, Nat.reduceMul, Nat.reduceSub, reduceCtorEq, frzLoc, rowCells, vAppM, beq_iff_eq, bne_iff_ne, bne_self_eq_false, beq_self_eq_true, beq_true, beq_false, I, B, w, vf196_res, vf196_keep, e126, h0, h1, h2, h3, h4, w5]))))))
            (refine RL_head ?_; (simp only [go_sem, Int.reduceToNat, Nat.reducePow, Int.reduceEq, Int.reduceNe, Int.reduceLT, Int.reduceLE, Nat.reduceAdd, Nat.reduceLeDiff, ↓reduceIte, Nat.reduceLT, Nat.reduceMul, Nat.reduceSub, reduceCtorEq, frzLoc, rowCells, vAppM, beq_iff_eq, bne_iff_ne, bne_self_eq_false, beq_self_eq_true, beq_true, beq_false, I, B, w, St.head, forget, vf196K0, RLK_some, vf196_res, vf196_keep, e126, h0, h1, h2, h3, h4]); refine vf196L0_go ?_; ((repeat (first
    | refine RX_seq ?_
    | refine RX_block ?_
    | ((first | refine RX_reg ?_ | refine RX_cond' ?_ | refine RX_draw0 ?_ | refine RX_draw rfl ?_ | refine RX_skip ?_ | refine RX_exit ?_ | refine RX_ret ?_); try (simp only [go_sem, Int.reduceToNat, Nat.reducePow, Int.reduceEq, Int.reduceNe, Int.reduceLT, Int.reduceLE, Nat.reduceAdd, Nat.reduceLeDiff, ↓reduceIte, Nat.reduceLT, Nat.reduceMul, Nat.reduceSub, reduceCtorEq, frzLoc, rowCells, vAppM, beq_iff_eq, bne_iff_ne, bne_self_eq_false, beq_self_eq_true, beq_true, beq_false, I, B, w, vf196_res, vf196_keep, e126, h0, h1, h2, h3, h4]))))))
          · rw [if_neg (fun hh => h4 hh.2.2.2.2)]
            refine CV_run (vf := vf196) rfl rfl ?_
            rw [vf196_start]
            (repeat (first
    | refine RX_seq ?_
    | refine RX_block ?_
    | ((first | refine RX_reg ?_ | refine RX_cond' ?_ | refine RX_draw0 ?_ | refine RX_draw rfl ?_ | refine RX_skip ?_ | refine RX_exit ?_ | refine RX_ret ?_); try (simp only [go_sem, Int.reduceToNat, Nat.reducePow, Int.reduceEq, Int.reduceNe, Int.reduceLT, Int.reduceLE, Nat.reduceAdd, Nat.reduceLeDiff, ↓reduceIte, Nat.reduceLT, Nat.reduceMul, Nat.reduceSub, reduceCtorEq, frzLoc, rowCells, vAppM, beq_iff_eq, bne_iff_ne, bne_self_eq_false, beq_self_eq_true, beq_true, beq_false, I, B, w, vf196_res, vf196_keep, e126]))))
            refine RX_loop ?_
            (refine RL_head ?_; (simp only [go_sem, Int.reduceToNat, Nat.reducePow, Int.reduceEq, Int.reduceNe, Int.reduceLT, Int.reduceLE, Nat.reduceAdd, Nat.reduceLeDiff, ↓reduceIte, Nat.reduceLT, Nat.reduceMul, Nat.reduceSub, reduceCtorEq, frzLoc, rowCells, vAppM, beq_iff_eq, bne_iff_ne, bne_self_eq_false, beq_self_eq_true, beq_true, beq_false, I, B, w, St.head, forget, vf196K0, RLK_some, vf196_res, vf196_keep, e126, h0, h1, h2, h3, h4, w1]); refine vf196L0_go ?_; ((repeat (first
    | refine RX_seq ?_
    | refine RX_block ?_
    | ((first | refine RX_reg ?_ | refine RX_cond' ?_ | refine RX_draw0 ?_ | refine RX_draw rfl ?_ | refine RX_skip ?_ | refine RX_exit ?_ | refine RX_ret ?_); try (simp only [go_sem, Int.reduceToNat, Nat.reducePow, Int.reduceEq, Int.reduceNe, Int.reduceLT, Int.reduceLE, Nat.reduceAdd, Nat.reduceLeDiff, ↓reduceIte, Nat.reduceLT, Nat.reduceMul, Nat.reduceSub, reduceCtorEq, frzLoc, rowCells, vAppM, beq_iff_eq, bne_iff_ne, bne_self_eq_false, beq_self_eq_true, beq_true, beq_false, I, B, w, vf196_res, vf196_keep, e126, h0, h1, h2, h3, h4, w1]))))))
            (refine RL_head ?_; (simp only [go_sem, Int.reduceToNat, Nat.reducePow, Int.reduceEq, Int.reduceNe, Int.reduceLT, Int.reduceLE, Nat.reduceAdd, Nat.reduceLeDiff, ↓reduceIte, Nat.reduceLT, Nat.reduceMul, Nat.reduceSub, reduceCtorEq, frzLoc, rowCells, vAppM, beq_iff_eq, bne_iff_ne, bne_self_eq_false, beq_self_eq_true, beq_true, beq_false, I, B, w, St.head, forget, vf196K0, RLK_some, vf196_res, vf196_keep, e126, h0, h1, h2, h3, h4, w2]); refine vf196L0_go ?_; ((repeat (first
    | refine RX_seq ?_
    | refine RX_block ?_
    | ((first | refine RX_reg ?_ | refine RX_cond' ?_ | refine RX_draw0 ?_ | refine RX_draw rfl ?_ | refine RX_skip ?_ | refine RX_exit ?_ | refine RX_ret ?_); try (simp only [go_sem, Int.reduceToNat, Nat.reducePow, Int.reduceEq, Int.reduceNe, Int.reduceLT, Int.reduceLE, Nat.reduceAdd, Nat.reduceLeDiff, ↓reduceIte, Nat.reduceLT, Nat.reduceMul, Nat.reduceSub, reduceCtorEq, frzLoc, rowCells, vAppM, beq_iff_eq, bne_iff_ne, bne_self_eq_false, beq_self_eq_true, beq_true, beq_false, I, B, w, vf196_res, vf196_keep, e126, h0, h1, h2, h3, h4, w2]))))))
            (refine RL_head ?_; (simp only [go_sem, Int.reduceToNat, Nat.reducePow, Int.reduceEq, Int.reduceNe, Int.reduceLT, Int.reduceLE, Nat.reduceAdd, Nat.reduceLeDiff, ↓reduceIte, Nat.reduceLT, Nat.reduceMul, Nat.reduceSub, reduceCtorEq, frzLoc, rowCells, vAppM, beq_iff_eq, bne_iff_ne, bne_self_eq_false, beq_self_eq_true, beq_true, beq_false, I, B, w, St.head, forget, vf196K0, RLK_some, vf196_res, vf196_keep, e126, h0, h1, h2, h3, h4, w3]); refine vf196L0_go ?_; ((repeat (first
    | refine RX_seq ?_
    | refine RX_block ?_
    | ((first | refine RX_reg ?_ | refine RX_cond' ?_ | refine RX_draw0 ?_ | refine RX_draw rfl ?_ | refine RX_skip ?_ | refine RX_exit ?_ | refine RX_ret ?_); try (simp only [go_sem, Int.reduceToNat, Nat.reducePow, Int.reduceEq, Int.reduceNe, Int.reduceLT, Int.reduceLE, Nat.reduceAdd, Nat.reduceLeDiff, ↓reduceIte, Nat.reduceLT, Nat.reduceMul, Nat.reduceSub, reduceCtorEq, frzLoc, rowCells, vAppM, beq_iff_eq, bne_iff_ne, bne_self_eq_false, beq_self_eq_true, beq_true, beq_false, I, B, w, vf196_res, vf196_keep, e126, h0, h1, h2, h3, h4, w3]))))))
            (refine RL_head ?_; (simp only [go_sem, Int.reduceToNat, Nat.reducePow, Int.reduceEq, Int.reduceNe, Int.reduceLT, Int.reduceLE, Nat.reduceAdd, Nat.reduceLeDiff, ↓reduceIte, Nat.reduceLT, Nat.reduceMul, Nat.reduceSub, reduceCtorEq, frzLoc, rowCells, vAppM, beq_iff_eq, bne_iff_ne, bne_self_eq_false, beq_self_eq_true, beq_true, beq_false, I, B, w, St.head, forget, vf196K0, RLK_some, vf196_res, vf196_keep, e126, h0, h1, h2, h3, h4, w4]); refine vf196L0_go ?_; ((repeat (first
    | refine RX_seq ?_
    | refine RX_block ?_
    | ((first | refine RX_reg ?_ | refine RX_cond' ?_ | refine RX_draw0 ?_ | refine RX_draw rfl ?_ | refine RX_skip ?_ | refine RX_exit ?_ | refine RX_ret ?_); try (simp only [go_sem, Int.reduceToNat, Nat.reducePow, Int.reduceEq, Int.reduceNe, Int.reduceLT, Int.reduceLE, Nat.reduceAdd, Nat.reduceLeDiff, ↓reduceIte, Nat.reduceLT, Nat.reduceMul, Nat.reduceSub, reduceCtorEq, frzLoc, rowCells, vAppM, beq_iff_eq, bne_iff_ne, bne_self_eq_false, beq_self_eq_true, beq_true, beq_false, I, B, w, vf196_res, vf196_keep, e126, h0, h1, h2, h3, h4, w4]))))))
            (refine RL_head ?_; (simp only [go_sem, Int.reduceToNat, Nat.reducePow, Int.reduceEq, Int.reduceNe, Int.reduceLT, Int.reduceLE, Nat.reduceAdd, Nat.reduceLeDiff, ↓reduceIte, Nat.reduceLT, Nat.reduceMul, Nat.reduceSub, reduceCtorEq, frzLoc, rowCells, vAppM, beq_iff_eq, bne_iff_ne, bne_self_eq_false, beq_self_eq_true, beq_true, beq_false, I, B, w, St.head, forget, vf196K0, RLK_some, vf196_res, vf196_keep, e126, h0, h1, h2, h3, h4, w5]); refine vf196L0_go ?_; ((repeat (first
    | refine RX_seq ?_
    | refine RX_block ?_
    | ((first | refine RX_reg ?_ | refine RX_cond' ?_ | refine RX_draw0 ?_ | refine RX_draw rfl ?_ | refine RX_skip ?_ | refine RX_exit ?_ | refine RX_ret ?_); try (simp only [go_sem, Int.reduceToNat, Nat.reducePow, Int.reduceEq, Int.reduceNe, Int.reduceLT, Int.reduceLE, Nat.reduceAdd, Nat.reduceLeDiff, ↓reduceIte, Nat.reduceLT, Nat.reduceMul, Nat.reduceSub, reduceCtorEq, frzLoc, rowCells, vAppM, beq_iff_eq, bne_iff_ne, bne_self_eq_false, beq_self_eq_true, beq_true, beq_false, I, B, w, vf196_res, vf196_keep, e126, h0, h1, h2, h3, h4, w5]))))))
        · rw [if_neg (fun hh => h3 hh.2.2.2.1)]
          refine CV_run (vf := vf196) rfl rfl ?_
          rw [vf196_start]
          (repeat (first
    | refine RX_seq ?_
    | refine RX_block ?_
    | ((first | refine RX_reg ?_ | refine RX_cond' ?_ | refine RX_draw0 ?_ | refine RX_draw rfl ?_ | refine RX_skip ?_ | refine RX_exit ?_ | refine RX_ret ?_); try (simp only [go_sem, Int.reduceToNat, Nat.reducePow, Int.reduceEq, Int.reduceNe, Int.reduceLT, Int.reduceLE, Nat.reduceAdd, Nat.reduceLeDiff, ↓reduceIte, Nat.reduceLT, Nat.reduceMul, Nat.reduceSub, reduceCtorEq, frzLoc, rowCells, vAppM, beq_iff_eq, bne_iff_ne, bne_self_eq_false, beq_self_eq_true, beq_true, beq_false, I, B, w, vf196_res, vf196_keep, e126]))))
          refine RX_loop ?_
          (refine RL_head ?_; (simp only [go_sem, Int.reduceToNat, Nat.reducePow, Int.reduceEq, Int.reduceNe, Int.reduceLT, Int.reduceLE, Nat.reduceAdd, Nat.reduceLeDiff, ↓reduceIte, Nat.reduceLT, Nat.reduceMul, Nat.reduceSub, reduceCtorEq, frzLoc, rowCells, vAppM, beq_iff_eq, bne_iff_ne, bne_self_eq_false, beq_self_eq_true, beq_true, beq_false, I, B, w, St.head, forget, vf196K0, RLK_some, vf196_res, vf196_keep, e126, h0, h1, h2, h3, w1]); refine vf196L0_go ?_; ((repeat (first
    | refine RX_seq ?_
    | refine RX_block ?_
    | ((first | refine RX_reg ?_ | refine RX_cond' ?_ | refine RX_draw0 ?_ | refine RX_draw rfl ?_ | refine RX_skip ?_ | refine RX_exit ?_ | refine RX_ret ?_); try (simp only [go_sem, Int.reduceToNat, Nat.reducePow, Int.reduceEq, Int.reduceNe, Int.reduceLT, Int.reduceLE, Nat.reduceAdd, Nat.reduceLeDiff, ↓reduceIte, Nat.reduceLT, Nat.reduceMul, Nat.reduceSub, reduceCtorEq, frzLoc, rowCells, vAppM, beq_iff_eq, bne_iff_ne, bne_self_eq_false, beq_self_eq_true, beq_true, beq_false, I, B, w, vf196_res, vf196_keep, e126, h0, h1, h2, h3, w1]))))))
          (refine RL_head ?_; (simp only [go_sem, Int.reduceToNat, Nat.reducePow, Int.reduceEq, Int.reduceNe, Int.reduceLT, Int.reduceLE, Nat.reduceAdd, Nat.reduceLeDiff, ↓reduceIte, Nat.reduceLT, Nat.reduceMul, Nat.reduceSub, reduceCtorEq, frzLoc, rowCells, vAppM, beq_iff_eq, bne_iff_ne, bne_self_eq_false, beq_self_eq_true, beq_true, beq_false, I, B, w, St.head, forget, vf196K0, RLK_some, vf196_res, vf196_keep, e126, h0, h1, h2, h3, w2]); refine vf196L0_go ?_; ((repeat (first
    | refine RX_seq ?_
    | refine RX_block ?_
    | ((first | refine RX_reg ?_ | refine RX_cond' ?_ | refine RX_draw0 ?_ | refine RX_draw rfl ?_ | refine RX_skip ?_ | refine RX_exit ?_ | refine RX_ret ?_); try (simp only [go_sem, Int.reduceToNat, Nat.reducePow, Int.reduceEq, Int.reduceNe, Int.reduceLT, Int.reduceLE, Nat.reduceAdd, Nat.reduceLeDiff, ↓reduceIte, Nat.reduceLT, Nat.reduceMul, Nat.reduceSub, reduceCtorEq, frzLoc, rowCells, vAppM, beq_iff_eq, bne_iff_ne, bne_self_eq_false, beq_self_eq_true, beq_true, beq_false, I, B, w, vf196_res, vf196_keep, e126, h0, h1, h2, h3, w2]))))))
          (refine RL_head ?_; (simp only [go_sem, Int.reduceToNat, Nat.reducePow, Int.reduceEq, Int.reduceNe, Int.reduceLT, Int.reduceLE, Nat.reduceAdd, Nat.reduceLeDiff, ↓reduceIte, Nat.reduceLT, Nat.reduceMul, Nat.reduceSub, reduceCtorEq, frzLoc, rowCells, vAppM, beq_iff_eq, bne_iff_ne, bne_self_eq_false, beq_self_eq_true, beq_true, beq_false, I, B, w, St.head, forget, vf196K0, RLK_some, vf196_res, vf196_keep, e126, h0, h1, h2, h3, w3]); refine vf196L0_go ?_; ((repeat (first
    | refine RX_seq ?_
    | refine RX_block ?_
    | ((first | refine RX_reg ?_ | refine RX_cond' ?_ | refine RX_draw0 ?_ | refine RX_draw rfl ?_ | refine RX_skip ?_ | refine RX_exit ?_ | refine RX_ret ?_); try (simp only [go_sem, Int.reduceToNat, Nat.reducePow, Int.reduceEq, Int.reduceNe, Int.reduceLT, Int.reduceLE, Nat.reduceAdd, Nat.reduceLeDiff, ↓reduceIte, Nat.reduceLT, Nat.reduceMul, Nat.reduceSub, reduceCtorEq, frzLoc, rowCells, vAppM, beq_iff_eq, bne_iff_ne, bne_self_eq_false, beq_self_eq_true, beq_true, beq_false, I, B, w, vf196_res, vf196_keep, e126, h0, h1, h2, h3, w3]))))))
          (refine RL_head ?_; (simp only [go_sem, Int.reduceToNat, Nat.reducePow, Int.reduceEq, Int.reduceNe, Int.reduceLT, Int.reduceLE, Nat.reduceAdd, Nat.reduceLeDiff, ↓reduceIte, Nat.reduceLT, Nat.reduceMul, Nat.reduceSub, reduceCtorEq, frzLoc, rowCells, vAppM, beq_iff_eq, bne_iff_ne, bne_self_eq_false, beq_self_eq_true, beq_true, beq_false, I, B, w, St.head, forget, vf196K0, RLK_some, vf196_res, vf196_keep, e126, h0, h1, h2, h3, w4]); refine vf196L0_go ?_; ((repeat (first
    | refine RX_seq ?_
    | refine RX_block ?_
    | ((first | refine RX_reg ?_ | refine RX_cond' ?_ | refine RX_draw0 ?_ | refine RX_draw rfl ?_ | refine RX_skip ?_ | refine RX_exit ?_ | refine RX_ret ?_); try (simp only [go_sem, Int.reduceToNat, Nat.reducePow, Int.reduceEq, Int.reduceNe, Int.reduceLT, Int.reduceLE, Nat.reduceAdd, Nat.reduceLeDiff, ↓reduceIte, Nat.reduceLT, Nat.reduceMul, Nat.reduceSub, reduceCtorEq, frzLoc, rowCells, vAppM, beq_iff_eq, bne_iff_ne, bne_self_eq_false, beq_self_eq_true, beq_true, beq_false, I, B, w, vf196_res, vf196_keep, e126, h0, h1, h2, h3, w4]))))))
      · rw [if_neg (fun hh => h2 hh.2.2.1)]
        refine CV_run (vf := vf196) rfl rfl ?_
        rw [vf196_start]
        (repeat (first
    | refine RX_seq ?_
    | refine RX_block ?_
    | ((first | refine RX_reg ?_ | refine RX_cond' ?_ | refine RX_draw0 ?_ | refine RX_draw rfl ?_ | refine RX_skip ?_ | refine RX_exit ?_ | refine RX_ret ?_); try (simp only [go_sem, Int.reduceToNat, Nat.reducePow, Int.reduceEq, Int.reduceNe, Int.reduceLT, Int.reduceLE, Nat.reduceAdd, Nat.reduceLeDiff, ↓reduceIte, Nat.reduceLT, Nat.reduceMul, Nat.reduceSub, reduceCtorEq, frzLoc, rowCells, vAppM, beq_iff_eq, bne_iff_ne, bne_self_eq_false, beq_self_eq_true, beq_true, beq_false, I, B, w, vf196_res, vf196_keep, e126]))))
        refine RX_loop ?_
        (refine RL_head ?_; (simp only [go_sem, Int.reduceToNat, Nat.reducePow, Int.reduceEq, Int.reduceNe, Int.reduceLT, Int.reduceLE, Nat.reduceAdd, Nat.reduceLeDiff, ↓reduceIte, Nat.reduceLT, Nat.reduceMul, Nat.reduceSub, reduceCtorEq, frzLoc, rowCells, vAppM, beq_iff_eq, bne_iff_ne, bne_self_eq_false, beq_self_eq_true, beq_true, beq_false, I, B, w, St.head, forget, vf196K0, RLK_some, vf196_res, vf196_keep, e126, h0, h1, h2, w1]); refine vf196L0_go ?_; ((repeat (first
    | refine RX_seq ?_
    | refine RX_block ?_
    | ((first | refine RX_reg ?_ | refine RX_cond' ?_ | refine RX_draw0 ?_ | refine RX_draw rfl ?_ | refine RX_skip ?_ | refine RX_exit ?_ | refine RX_ret ?_); try (simp only [go_sem, Int.reduceToNat, Nat.reducePow, Int.reduceEq, Int.reduceNe, Int.reduceLT, Int.reduceLE, Nat.reduceAdd, Nat.reduceLeDiff, ↓reduceIte, Nat.reduceLT, Nat.reduceMul, Nat.reduceSub, reduceCtorEq, frzLoc, rowCells, vAppM, beq_iff_eq, bne_iff_ne, bne_self_eq_false, beq_self_eq_true, beq_true, beq_false, I, B, w, vf196_res, vf196_keep, e126, h0, h1, h2, w1]))))))
        (refine RL_head ?_; (simp only [go_sem, Int.reduceToNat, Nat.reducePow, Int.reduceEq, Int.reduceNe, Int.reduceLT, Int.reduceLE, Nat.reduceAdd, Nat.reduceLeDiff, ↓reduceIte, Nat.reduceLT, Nat.reduceMul, Nat.reduceSub, reduceCtorEq, frzLoc, rowCells, vAppM, beq_iff_eq, bne_iff_ne, bne_self_eq_false, beq_self_eq_true, beq_true, beq_false, I, B, w, St.head, forget, vf196K0, RLK_some, vf196_res, vf196_keep, e126, h0, h1, h2, w2]); refine vf196L0_go ?_; ((repeat (first
    | refine RX_seq ?_
    | refine RX_block ?_
    | ((first | refine RX_reg ?_ | refine RX_cond' ?_ | refine RX_draw0 ?_ | refine RX_draw rfl ?_ | refine RX_skip ?_ | refine RX_exit ?_ | refine RX_ret ?_); try (simp only [go_sem, Int.reduceToNat, Nat.reducePow, Int.reduceEq, Int.reduceNe, Int.reduceLT, Int.reduceLE, Nat.reduceAdd, Nat.reduceLeDiff, ↓reduceIte, Nat.reduceLT, Nat.reduceMul, Nat.reduceSub, reduceCtorEq, frzLoc, rowCells, vAppM, beq_iff_eq, bne_iff_ne, bne_self_eq_false, beq_self_eq_true, beq_true, beq_false, I, B, w, vf196_res, vf196_keep, e126, h0, h1, h2, w2]))))))
        (refine RL_head ?_; (simp only [go_sem, Int.reduceToNat, Nat.reducePow, Int.reduceEq, Int.reduceNe, Int.reduceLT, Int.reduceLE, Nat.reduceAdd, Nat.reduceLeDiff, ↓reduceIte, Nat.reduceLT, Nat.reduceMul, Nat.reduceSub, reduceCtorEq, frzLoc, rowCells, vAppM, beq_iff_eq, bne_iff_ne, bne_self_eq_false, beq_self_eq_true, beq_true, beq_false, I, B, w, St.head, forget, vf196K0, RLK_some, vf196_res, vf196_keep, e126, h0, h1, h2, w3]); refine vf196L0_go ?_; ((repeat (first
    | refine RX_seq ?_
    | refine RX_block ?_
    | ((first | refine RX_reg ?_ | refine RX_cond' ?_ | refine RX_draw0 ?_ | refine RX_draw rfl ?_ | refine RX_skip ?_ | refine RX_exit ?_ | refine RX_ret ?_); try (simp only [go_sem, Int.reduceToNat, Nat.reducePow, Int.reduceEq, Int.reduceNe, Int.reduceLT, Int.reduceLE, Nat.reduceAdd, Nat.reduceLeDiff, ↓reduceIte, Nat.reduceLT, Nat.reduceMul, Nat.reduceSub, reduceCtorEq, frzLoc, rowCells, vAppM, beq_iff_eq, bne_iff_ne, bne_self_eq_false, beq_self_eq_true, beq_true, beq_false, I, B, w, vf196_res, vf196_keep, e126, h0, h1, h2, w3]))))))
    · rw [if_neg (fun hh => h1 hh.2.1)]
      refine CV_run (vf := vf196) rfl rfl ?_
      rw [vf196_start]
      (repeat (first
    | refine RX_seq ?_
    | refine RX_block ?_
    | ((first | refine RX_reg ?_ | refine RX_cond' ?_ | refine RX_draw0 ?_ | refine RX_draw rfl ?_ | refine RX_skip ?_ | refine RX_exit ?_ | refine RX_ret ?_); try (simp only [go_sem, Int.reduceToNat, Nat.reducePow, Int.reduceEq, Int.reduceNe, Int.reduceLT, Int.reduceLE, Nat.reduceAdd, Nat.reduceLeDiff, ↓reduceIte, Nat.reduceLT, Nat.reduceMul, Nat.reduceSub, reduceCtorEq, frzLoc, rowCells, vAppM, beq_iff_eq, bne_iff_ne, bne_self_eq_false, beq_self_eq_true, beq_true, beq_false, I, B, w, vf196_res, vf196_keep, e126]))))
      refine RX_loop ?_
      (refine RL_head ?_; (simp only [go_sem, Int.reduceToNat, Nat.reducePow, Int.reduceEq, Int.reduceNe, Int.reduceLT, Int.reduceLE, Nat.reduceAdd, Nat.reduceLeDiff, ↓reduceIte, Nat.reduceLT, Nat.reduceMul, Nat.reduceSub, reduceCtorEq, frzLoc, rowCells, vAppM, beq_iff_eq, bne_iff_ne, bne_self_eq_false, beq_self_eq_true, beq_true, beq_false, I, B, w, St.head, forget, vf196K0, RLK_some, vf196_res, vf196_keep, e126, h0, h1, w1]); refine vf196L0_go ?_; ((repeat (first
    | refine RX_seq ?_
    | refine RX_block ?_
    | ((first | refine RX_reg ?_ | refine RX_cond' ?_ | refine RX_draw0 ?_ | refine RX_draw rfl ?_ | refine RX_skip ?_ | refine RX_exit ?_ | refine RX_ret ?_); try (simp only [go_sem, Int.reduceToNat, Nat.reducePow, Int.reduceEq, Int.reduceNe, Int.reduceLT, Int.reduceLE, Nat.reduceAdd, Nat.reduceLeDiff, ↓reduceIte, Nat.reduceLT, Nat.reduceMul, Nat.reduceSub, reduceCtorEq, frzLoc, rowCells, vAppM, beq_iff_eq, bne_iff_ne, bne_self_eq_false, beq_self_eq_true, beq_true, beq_false, I, B, w, vf196_res, vf196_keep, e126, h0, h1, w1]))))))
      (refine RL_head ?_; (simp only [go_sem, Int.reduceToNat, Nat.reducePow, Int.reduceEq, Int.reduceNe, Int.reduceLT, Int.reduceLE, Nat.reduceAdd, Nat.reduceLeDiff, ↓reduceIte, Nat.reduceLT, Nat.reduceMul, Nat.reduceSub, reduceCtorEq, frzLoc, rowCells, vAppM, beq_iff_eq, bne_iff_ne, bne_self_eq_false, beq_self_eq_true, beq_true, beq_false, I, B, w, St.head, forget, vf196K0, RLK_some, vf196_res, vf196_keep, e126, h0, h1, w2]); refine vf196L0_go ?_; ((repeat (first
    | refine RX_seq ?_
    | refine RX_block ?_
    | ((first | refine RX_reg ?_ | refine RX_cond' ?_ | refine RX_draw0 ?_ | refine RX_draw rfl ?_ | refine RX_skip ?_ | refine RX_exit ?_ | refine RX_ret ?_); try (simp only [go_sem, Int.reduceToNat, Nat.reducePow, Int.reduceEq, Int.reduceNe, Int.reduceLT, Int.reduceLE, Nat.reduceAdd, Nat.reduceLeDiff, ↓reduceIte, Nat.reduceLT, Nat.reduceMul, Nat.reduceSub, reduceCtorEq, frzLoc, rowCells, vAppM, beq_iff_eq, bne_iff_ne, bne_self_eq_false, beq_self_eq_true, beq_true, beq_false, I, B, w, vf196_res, vf196_keep, e126, h0, h1, w2]))))))
  · rw [if_neg (fun hh => h0 hh.1)]
    refine CV_run (vf := vf196) rfl rfl ?_
    rw [vf196_start]
    (repeat (first
    | refine RX_seq ?_
    | refine RX_block ?_
    | ((first | refine RX_reg ?_ | refine RX_cond' ?_ | refine RX_draw0 ?_ | refine RX_draw rfl ?_ | refine RX_skip ?_ | refine RX_exit ?_ | refine RX_ret ?_); try (simp only [go_sem, Int.reduceToNat, Nat.reducePow, Int.reduceEq, Int.reduceNe, Int.reduceLT, Int.reduceLE, Nat.reduceAdd, Nat.reduceLeDiff, ↓reduceIte, Nat.reduceLT, Nat.reduceMul, Nat.reduceSub, reduceCtorEq, frzLoc, rowCells, vAppM, beq_iff_eq, bne_iff_ne, bne_self_eq_false, beq_self_eq_true, beq_true, beq_false, I, B, w, vf196_res, vf196_keep, e126]))))
    refine RX_loop ?_
    (refine RL_head ?_; (simp only [go_sem, Int.reduceToNat, Nat.reducePow, Int.reduceEq, Int.reduceNe, Int.reduceLT, Int.reduceLE, Nat.reduceAdd, Nat.reduceLeDiff, ↓reduceIte, Nat.reduceLT, Nat.reduceMul, Nat.reduceSub, reduceCtorEq, frzLoc, rowCells, vAppM, beq_iff_eq, bne_iff_ne, bne_self_eq_false, beq_self_eq_true, beq_true, beq_false, I, B, w, St.head, forget, vf196K0, RLK_some, vf196_res, vf196_keep, e126, h0, w1]); refine vf196L0_go ?_; ((repeat (first
    | refine RX_seq ?_
    | refine RX_block ?_
    | ((first | refine RX_reg ?_ | refine RX_cond' ?_ | refine RX_draw0 ?_ | refine RX_draw rfl ?_ | refine RX_skip ?_ | refine RX_exit ?_ | refine RX_ret ?_); try (simp only [go_sem, Int.reduceToNat, Nat.reducePow, Int.reduceEq, Int.reduceNe, Int.reduceLT, Int.reduceLE, Nat.reduceAdd, Nat.reduceLeDiff, ↓reduceIte, Nat.reduceLT, Nat.reduceMul, Nat.reduceSub, reduceCtorEq, frzLoc, rowCells, vAppM, beq_iff_eq, bne_iff_ne, bne_self_eq_false, beq_self_eq_true, beq_true, beq_false, I, B, w, vf196_res, vf196_keep, e126, h0, w1]))))))
theorem e112d (f h f' h' a0 a1 a2 a3 a4 b0 b1 b2 b3 b4 c0 c1 c2 c3 c4 d0 d1 d2 d3 d4 : Int) (hf : f ≠ f') : CV VP 196 [.agg [.d (I f), .d (U h), .d (U a0), .d (I f), .d (U h), .d (U b0), .d (I f), .d (U h), .d (U a1), .d (I f), .d (U h), .d (U b1), .d (I 0), .d (U 0), .d (U a2), .d (I 0), .d (U 0), .d (U b2), .d (I 0), .d (U 0), .d (U a3), .d (I 0), .d (U 0), .d (U b3), .d (I 0), .d (U 0), .d (U a4), .d (I 0), .d (U 0), .d (U b4)], .agg [.d (I f'), .d (U h'), .d (U c0), .d (I f'), .d (U h'), .d (U d0), .d (I f'), .d (U h'), .d (U c1), .d (I f'), .d (U h'), .d (U d1), .d (I 0), .d (U 0), .d (U c2), .d (I 0), .d (U 0), .d (U d2), .d (I 0), .d (U 0), .d (U c3), .d (I 0), .d (U 0), .d (U d3), .d (I 0), .d (U 0), .d (U c4), .d (I 0), .d (U 0), .d (U d4)]] [] = some ⟨.tup [.agg [.d (I 0), .d (U 0), .d (U 0), .d (I 0), .d (U 0), .d (U 0), .d (I 0), .d (U 0), .d (U 0), .d (I 0), .d (U 0), .d (U 0), .d (I 0), .d (U 0), .d (U 0), .d (I 0), .d (U 0), .d (U 0), .d (I 0), .d (U 0), .d (U 0), .d (I 0), .d (U 0), .d (U 0), .d (I 0), .d (U 0), .d (U 0), .d (I 0), .d (U 0), .d (U 0)], .d (B false)], [], [], 0⟩ := by
  rcases Int.lt_or_gt_of_ne hf with h0 | h0
  · have q := e126l f h a0 b0 f' h' c0 d0 h0
    refine CV_run (vf := vf196) rfl rfl ?_
    rw [vf196_start]
    (repeat (first
    | refine RX_seq ?_
    | refine RX_block ?_
    | ((first | refine RX_reg ?_ | refine RX_cond' ?_ | refine RX_draw0 ?_ | refine RX_draw rfl ?_ | refine RX_skip ?_ | refine RX_exit ?_ | refine RX_ret ?_); try (simp only [go_sem, Int.reduceToNat, Nat.reducePow, Int.reduceEq, Int.reduceNe, Int.reduceLT, Int.reduceLE, Nat.reduceAdd, Nat.reduceLeDiff, ↓reduceIte, Nat.reduceLT, Nat.reduceMul, Nat.reduceSub, reduceCtorEq, frzLoc, rowCells, vAppM, beq_iff_eq, bne_iff_ne, bne_self_eq_false, beq_self_eq_true, beq_true, beq_false, I, B, w, vf196_res, vf196_keep]))))
    refine RX_loop ?_
    (refine RL_head ?_; (simp only [go_sem, Int.reduceToNat, Nat.reducePow, Int.reduceEq, Int.reduceNe, Int.reduceLT, Int.reduceLE, Nat.reduceAdd, Nat.reduceLeDiff, ↓reduceIte, Nat.reduceLT, Nat.reduceMul, Nat.reduceSub, reduceCtorEq, frzLoc, rowCells, vAppM, beq_iff_eq, bne_iff_ne, bne_self_eq_false, beq_self_eq_true, beq_true, beq_false, I, B, w, St.head, forget, vf196K0, RLK_some, vf196_res, vf196_keep, q]); refine vf196L0_go ?_; ((repeat (first
    | refine RX_seq ?_
    | refine RX_block ?_
    | ((first | refine RX_reg ?_ | refine RX_cond' ?_ | refine RX_draw0 ?_ | refine RX_draw rfl ?_ | refine RX_skip ?_ | refine RX_exit ?_ | refine RX_ret ?_); try (simp only [go_sem, Int.reduceToNat, Nat.reducePow, Int.reduceEq, Int.reduceNe, Int.reduceLT, Int.reduceLE, Nat.reduceAdd, Nat.reduceLeDiff, ↓reduceIte, Nat.reduceLT, Nat.reduceMul, Nat.reduceSub, reduceCtorEq, frzLoc, rowCells, vAppM, beq_iff_eq, bne_iff_ne, bne_self_eq_false, beq_self_eq_true, beq_true, beq_false, I, B, w, vf196_res, vf196_keep, q]))))))
  · have q := e126g f h a0 b0 f' h' c0 d0 h0
    refine CV_run (vf := vf196) rfl rfl ?_
    rw [vf196_start]
    (repeat (first
    | refine RX_seq ?_
    | refine RX_block ?_
    | ((first | refine RX_reg ?_ | refine RX_cond' ?_ | refine RX_draw0 ?_ | refine RX_draw rfl ?_ | refine RX_skip ?_ | refine RX_exit ?_ | refine RX_ret ?_); try (simp only [go_sem, Int.reduceToNat, Nat.reducePow, Int.reduceEq, Int.reduceNe, Int.reduceLT, Int.reduceLE, Nat.reduceAdd, Nat.reduceLeDiff, ↓reduceIte, Nat.reduceLT, Nat.reduceMul, Nat.reduceSub, reduceCtorEq, frzLoc, rowCells, vAppM, beq_iff_eq, bne_iff_ne, bne_self_eq_false, beq_self_eq_true, beq_true, beq_false, I, B, w, vf196_res, vf196_keep]))))
    refine RX_loop ?_
    (refine RL_head ?_; (simp only [go_sem, Int.reduceToNat, Nat.reducePow, Int.reduceEq, Int.reduceNe, Int.reduceLT, Int.reduceLE, Nat.reduceAdd, Nat.reduceLeDiff, ↓reduceIte, Nat.reduceLT, Nat.reduceMul, Nat.reduceSub, reduceCtorEq, frzLoc, rowCells, vAppM, beq_iff_eq, bne_iff_ne, bne_self_eq_false, beq_self_eq_true, beq_true, beq_false, I, B, w, St.head, forget, vf196K0, RLK_some, vf196_res, vf196_keep, q]); refine vf196L0_go ?_; ((repeat (first
    | refine RX_seq ?_
    | refine RX_block ?_
    | ((first | refine RX_reg ?_ | refine RX_cond' ?_ | refine RX_draw0 ?_ | refine RX_draw rfl ?_ | refine RX_skip ?_ | refine RX_exit ?_ | refine RX_ret ?_); try (simp only [go_sem, Int.reduceToNat, Nat.reducePow, Int.reduceEq, Int.reduceNe, Int.reduceLT, Int.reduceLE, Nat.reduceAdd, Nat.reduceLeDiff, ↓reduceIte, Nat.reduceLT, Nat.reduceMul, Nat.reduceSub, reduceCtorEq, frzLoc, rowCells, vAppM, beq_iff_eq, bne_iff_ne, bne_self_eq_false, beq_self_eq_true, beq_true, beq_false, I, B, w, vf196_res, vf196_keep, q]))))))
end Go.Proofs.Ytciaehhaglaafaa

namespace Go.Proofs.Ytciaehhaglaafaa
open Go.VM
theorem num_u {n : Int} (h : num n) : IntKind.u64.wrap (IntKind.i64.wrap (n + 1)) = n + 1 := by
  obtain ⟨h1, h2⟩ := h
  rw [w_in (by omega) (by omega)]
  simp [IntKind.wrap, IntKind.signed, IntKind.bits]
  omega
theorem num_d {n : Int} (h1 : 0 ≤ n) (h2 : n ≤ 65536) : IntKind.i64.wrap (IntKind.i64.wrap n - 1) = n - 1 := by
  rw [w_in (x := n) (by omega) (by omega), w_in (by omega) (by omega)]
theorem e111 (f h a0 b0 a1 b1 p0 p1 l0 l1 r0 r1 : Int) (h1 : num p0) (h2 : num p1) (h3 : num l0) (h4 : num l1) (h5 : num r0) (h6 : num r1) :
    CV VP 195 [bxV f h a0 b0 a1 b1 p0 p1 l0 l1 r0 r1] [] = some ⟨.agg [.d (I f), .d (U h), .d (U a0), .d (I f), .d (U h), .d (U b0), .d (I f), .d (U h), .d (U a1), .d (I f), .d (U h), .d (U b1), .d (I 0), .d (U 0), .d (U (p0 + 1)), .d (I 0), .d (U 0), .d (U (p1 + 1)), .d (I 0), .d (U 0), .d (U (l0 + 1)), .d (I 0), .d (U 0), .d (U (l1 + 1)), .d (I 0), .d (U 0), .d (U (r0 + 1)), .d (I 0), .d (U 0), .d (U (r1 + 1))], [], [], 0⟩ := by
  refine CV_run (vf := vf195) rfl rfl ?_
  rw [vf195_start]
  (repeat (first
    | refine RX_seq ?_
    | refine RX_block ?_
    | ((first | refine RX_reg ?_ | refine RX_cond' ?_ | refine RX_draw0 ?_ | refine RX_draw rfl ?_ | refine RX_skip ?_ | refine RX_exit ?_ | refine RX_ret ?_); try (simp only [go_sem, Int.reduceToNat, Nat.reducePow, Int.reduceEq, Int.reduceNe, Int.reduceLT, Int.reduceLE, Nat.reduceAdd, Nat.reduceLeDiff, ↓reduceIte, Nat.reduceLT, Nat.reduceMul, Nat.reduceSub, reduceCtorEq, frzLoc, rowCells, vAppM, beq_iff_eq, bne_iff_ne, bne_self_eq_false, beq_self_eq_true, beq_true, beq_false, I, B, w, vf195_res, vf195_keep, e124, e125, num_u h1, num_u h2, num_u h3, num_u h4, num_u h5, num_u h6]))))
theorem e113 (f h a0 b0 a1 b1 p0 p1 l0 l1 r0 r1 : Int) (h1 : num (p0 - 1)) (h2 : num (p1 - 1)) (h3 : num (l0 - 1)) (h4 : num (l1 - 1)) (h5 : num (r0 - 1)) (h6 : num (r1 - 1)) :
    CV VP 197 [.agg [.d (I f), .d (U h), .d (U a0), .d (I f), .d (U h), .d (U b0), .d (I f), .d (U h), .d (U a1), .d (I f), .d (U h), .d (U b1), .d (I 0), .d (U 0), .d (U p0), .d (I 0), .d (U 0), .d (U p1), .d (I 0), .d (U 0), .d (U l0), .d (I 0), .d (U 0), .d (U l1), .d (I 0), .d (U 0), .d (U r0), .d (I 0), .d (U 0), .d (U r1)]] [] = some ⟨bxV f h a0 b0 a1 b1 (p0 - 1) (p1 - 1) (l0 - 1) (l1 - 1) (r0 - 1) (r1 - 1), [], [], 0⟩ := by
  have n1 := num_d (n := p0) (by unfold num at h1; omega) (by unfold num at h1; omega)
  have n2 := num_d (n := p1) (by unfold num at h2; omega) (by unfold num at h2; omega)
  have n3 := num_d (n := l0) (by unfold num at h3; omega) (by unfold num at h3; omega)
  have n4 := num_d (n := l1) (by unfold num at h4; omega) (by unfold num at h4; omega)
  have n5 := num_d (n := r0) (by unfold num at h5; omega) (by unfold num at h5; omega)
  have n6 := num_d (n := r1) (by unfold num at h6; omega) (by unfold num at h6; omega)
  refine CV_run (vf := vf197) rfl rfl ?_
  rw [vf197_start]
  (repeat (first
    | refine RX_seq ?_
    | refine RX_block ?_
    | ((first | refine RX_reg ?_ | refine RX_cond' ?_ | refine RX_draw0 ?_ | refine RX_draw rfl ?_ | refine RX_skip ?_ | refine RX_exit ?_ | refine RX_ret ?_); try (simp only [go_sem, Int.reduceToNat, Nat.reducePow, Int.reduceEq, Int.reduceNe, Int.reduceLT, Int.reduceLE, Nat.reduceAdd, Nat.reduceLeDiff, ↓reduceIte, Nat.reduceLT, Nat.reduceMul, Nat.reduceSub, reduceCtorEq, frzLoc, rowCells, vAppM, beq_iff_eq, bne_iff_ne, bne_self_eq_false, beq_self_eq_true, beq_true, beq_false, I, B, w, vf197_res, vf197_keep, e127, e128, n1, n2, n3, n4, n5, n6]))))
open Classical in
noncomputable def Bx.meetR (x y : Bx) : Ret := if x.f = y.f ∧ x.over y then ⟨.tup [(x.meet y).ag, .d (B true)], [], [], 0⟩ else ⟨.tup [Bx.zero.ag, .d (B false)], [], [], 0⟩
theorem num_max {a b : Int} (h : num a) (h' : num b) : num (max (a + 1) (b + 1) - 1) := by unfold num at *; omega
theorem num_min {a b : Int} (h : num a) (h' : num b) : num (min (a + 1) (b + 1) - 1) := by unfold num at *; omega
theorem max1 (a b : Int) : max (a + 1) (b + 1) - 1 = max a b := by omega
theorem min1 (a b : Int) : min (a + 1) (b + 1) - 1 = min a b := by omega
theorem mm1 (a b c d : Int) : max (a + 1) (b + 1) ≤ min (c + 1) (d + 1) ↔ max a b ≤ min c d := by omega
set_option maxHeartbeats 1000000 in
theorem e92 (x y : Bx) (hx : x.ok) (hy : y.ok) : CV VP 153 [x.ag, y.ag] [] = some (x.meetR y) := by
  have x1 := e111 x.f x.h x.a0 x.b0 x.a1 x.b1 x.p0 x.p1 x.l0 x.l1 x.r0 x.r1 hx.p0 hx.p1 hx.l0 hx.l1 hx.r0 hx.r1
  have y1 := e111 y.f y.h y.a0 y.b0 y.a1 y.b1 y.p0 y.p1 y.l0 y.l1 y.r0 y.r1 hy.p0 hy.p1 hy.l0 hy.l1 hy.r0 hy.r1
  unfold Bx.meetR
  by_cases hf : x.f = y.f
  · have hh : x.h = y.h := by have a := hx.fam; have b := hy.fam; omega
    rw [← hf, ← hh] at y1
    have m1 := e112 x.f x.h x.a0 x.a1 (x.p0 + 1) (x.l0 + 1) (x.r0 + 1) x.b0 x.b1 (x.p1 + 1) (x.l1 + 1) (x.r1 + 1) y.a0 y.a1 (y.p0 + 1) (y.l0 + 1) (y.r0 + 1) y.b0 y.b1 (y.p1 + 1) (y.l1 + 1) (y.r1 + 1)
    by_cases ho : x.over y
    · rw [if_pos (by rw [mm1, mm1, mm1]; exact ho)] at m1
      rw [if_pos ⟨hf, ho⟩]
      have k1 := e113 x.f x.h (max x.a0 y.a0) (min x.b0 y.b0) (max x.a1 y.a1) (min x.b1 y.b1) (max (x.p0 + 1) (y.p0 + 1)) (min (x.p1 + 1) (y.p1 + 1)) (max (x.l0 + 1) (y.l0 + 1)) (min (x.l1 + 1) (y.l1 + 1)) (max (x.r0 + 1) (y.r0 + 1)) (min (x.r1 + 1) (y.r1 + 1))
        (num_max hx.p0 hy.p0) (num_min hx.p1 hy.p1) (num_max hx.l0 hy.l0) (num_min hx.l1 hy.l1) (num_max hx.r0 hy.r0) (num_min hx.r1 hy.r1)
      rw [max1, max1, max1, min1, min1, min1] at k1
      refine CV_run (vf := vf153) rfl rfl ?_
      rw [vf153_start]
      simp only [Bx.meet]
      rw [hf, hh] at x1 y1 m1 k1
      (repeat (first
    | refine RX_seq ?_
    | refine RX_block ?_
    | ((first | refine RX_reg ?_ | refine RX_cond' ?_ | refine RX_draw0 ?_ | refine RX_draw rfl ?_ | refine RX_skip ?_ | refine RX_exit ?_ | refine RX_ret ?_); try (simp only [go_sem, Int.reduceToNat, Nat.reducePow, Int.reduceEq, Int.reduceNe, Int.reduceLT, Int.reduceLE, Nat.reduceAdd, Nat.reduceLeDiff, ↓reduceIte, Nat.reduceLT, Nat.reduceMul, Nat.reduceSub, reduceCtorEq, frzLoc, rowCells, vAppM, beq_iff_eq, bne_iff_ne, bne_self_eq_false, beq_self_eq_true, beq_true, beq_false, I, B, w, vf153_res, vf153_keep, hf, hh, x1, y1, m1, k1]))))
    · rw [if_neg (by rw [mm1, mm1, mm1]; exact ho)] at m1
      rw [if_neg (fun q => ho q.2)]
      refine CV_run (vf := vf153) rfl rfl ?_
      rw [vf153_start]
      rw [hf, hh] at x1 y1 m1
      (repeat (first
    | refine RX_seq ?_
    | refine RX_block ?_
    | ((first | refine RX_reg ?_ | refine RX_cond' ?_ | refine RX_draw0 ?_ | refine RX_draw rfl ?_ | refine RX_skip ?_ | refine RX_exit ?_ | refine RX_ret ?_); try (simp only [go_sem, Int.reduceToNat, Nat.reducePow, Int.reduceEq, Int.reduceNe, Int.reduceLT, Int.reduceLE, Nat.reduceAdd, Nat.reduceLeDiff, ↓reduceIte, Nat.reduceLT, Nat.reduceMul, Nat.reduceSub, reduceCtorEq, frzLoc, rowCells, vAppM, beq_iff_eq, bne_iff_ne, bne_self_eq_false, beq_self_eq_true, beq_true, beq_false, I, B, w, vf153_res, vf153_keep, hf, hh, x1, y1, m1]))))
  · rw [if_neg (fun q => hf q.1)]
    have m1 := e112d x.f x.h y.f y.h x.a0 x.a1 (x.p0 + 1) (x.l0 + 1) (x.r0 + 1) x.b0 x.b1 (x.p1 + 1) (x.l1 + 1) (x.r1 + 1) y.a0 y.a1 (y.p0 + 1) (y.l0 + 1) (y.r0 + 1) y.b0 y.b1 (y.p1 + 1) (y.l1 + 1) (y.r1 + 1) hf
    refine CV_run (vf := vf153) rfl rfl ?_
    rw [vf153_start]
    (repeat (first
    | refine RX_seq ?_
    | refine RX_block ?_
    | ((first | refine RX_reg ?_ | refine RX_cond' ?_ | refine RX_draw0 ?_ | refine RX_draw rfl ?_ | refine RX_skip ?_ | refine RX_exit ?_ | refine RX_ret ?_); try (simp only [go_sem, Int.reduceToNat, Nat.reducePow, Int.reduceEq, Int.reduceNe, Int.reduceLT, Int.reduceLE, Nat.reduceAdd, Nat.reduceLeDiff, ↓reduceIte, Nat.reduceLT, Nat.reduceMul, Nat.reduceSub, reduceCtorEq, frzLoc, rowCells, vAppM, beq_iff_eq, bne_iff_ne, bne_self_eq_false, beq_self_eq_true, beq_true, beq_false, I, B, w, vf153_res, vf153_keep, x1, y1, m1]))))
end Go.Proofs.Ytciaehhaglaafaa

namespace Go.Proofs.Ytciaehhaglaafaa
open Go.VM
theorem num_d2 {n : Int} (h : num n) : IntKind.i64.wrap (IntKind.i64.wrap (n + 1) - 1) = n := by
  unfold num at h
  rw [num_d (by omega) (by omega)]; omega
theorem maxp (a b : Int) : max (a + 1) (b + 1) = max a b + 1 := by omega
theorem minp (a b : Int) : min (a + 1) (b + 1) = min a b + 1 := by omega
theorem num_mx {a b : Int} (h : num a) (h' : num b) : num (max a b) := by unfold num at *; omega
theorem num_mn {a b : Int} (h : num a) (h' : num b) : num (min a b) := by unfold num at *; omega
theorem lt1 (a b : Int) : (a + 1 < b + 1) ↔ (a < b) := by omega
theorem e114 (f h a b : Int) : CV VP 202 [.agg [.d (I f), .d (U h), .d (U a)], .agg [.d (I f), .d (U h), .d (U b)]] [] = some ⟨.agg [.d (I f), .d (U h), .d (U (max a b))], [], [], 0⟩ := by
  refine CV_run (vf := vf202) rfl rfl ?_
  rw [vf202_start]
  by_cases h1 : a < b
  · have m : max a b = b := by omega
    (repeat (first
    | refine RX_seq ?_
    | refine RX_block ?_
    | ((first | refine RX_reg ?_ | refine RX_cond' ?_ | refine RX_draw0 ?_ | refine RX_draw rfl ?_ | refine RX_skip ?_ | refine RX_exit ?_ | refine RX_ret ?_); try (simp only [go_sem, Int.reduceToNat, Nat.reducePow, Int.reduceEq, Int.reduceNe, Int.reduceLT, Int.reduceLE, Nat.reduceAdd, Nat.reduceLeDiff, ↓reduceIte, Nat.reduceLT, Nat.reduceMul, Nat.reduceSub, reduceCtorEq, frzLoc, rowCells, vAppM, beq_iff_eq, bne_iff_ne, bne_self_eq_false, beq_self_eq_true, beq_true, beq_false, I, B, w, vf202_res, vf202_keep, e109t, h1, m]))))
  · have m : max a b = a := by omega
    (repeat (first
    | refine RX_seq ?_
    | refine RX_block ?_
    | ((first | refine RX_reg ?_ | refine RX_cond' ?_ | refine RX_draw0 ?_ | refine RX_draw rfl ?_ | refine RX_skip ?_ | refine RX_exit ?_ | refine RX_ret ?_); try (simp only [go_sem, Int.reduceToNat, Nat.reducePow, Int.reduceEq, Int.reduceNe, Int.reduceLT, Int.reduceLE, Nat.reduceAdd, Nat.reduceLeDiff, ↓reduceIte, Nat.reduceLT, Nat.reduceMul, Nat.reduceSub, reduceCtorEq, frzLoc, rowCells, vAppM, beq_iff_eq, bne_iff_ne, bne_self_eq_false, beq_self_eq_true, beq_true, beq_false, I, B, w, vf202_res, vf202_keep, e109t, h1, m]))))
theorem e116 (f h a b : Int) : CV VP 204 [.agg [.d (I f), .d (U h), .d (U a)], .agg [.d (I f), .d (U h), .d (U b)]] [] = some ⟨.agg [.d (I f), .d (U h), .d (U (min a b))], [], [], 0⟩ := by
  refine CV_run (vf := vf204) rfl rfl ?_
  rw [vf204_start]
  by_cases h1 : b < a
  · have m : min a b = b := by omega
    (repeat (first
    | refine RX_seq ?_
    | refine RX_block ?_
    | ((first | refine RX_reg ?_ | refine RX_cond' ?_ | refine RX_draw0 ?_ | refine RX_draw rfl ?_ | refine RX_skip ?_ | refine RX_exit ?_ | refine RX_ret ?_); try (simp only [go_sem, Int.reduceToNat, Nat.reducePow, Int.reduceEq, Int.reduceNe, Int.reduceLT, Int.reduceLE, Nat.reduceAdd, Nat.reduceLeDiff, ↓reduceIte, Nat.reduceLT, Nat.reduceMul, Nat.reduceSub, reduceCtorEq, frzLoc, rowCells, vAppM, beq_iff_eq, bne_iff_ne, bne_self_eq_false, beq_self_eq_true, beq_true, beq_false, I, B, w, vf204_res, vf204_keep, e109t, h1, m]))))
  · have m : min a b = a := by omega
    (repeat (first
    | refine RX_seq ?_
    | refine RX_block ?_
    | ((first | refine RX_reg ?_ | refine RX_cond' ?_ | refine RX_draw0 ?_ | refine RX_draw rfl ?_ | refine RX_skip ?_ | refine RX_exit ?_ | refine RX_ret ?_); try (simp only [go_sem, Int.reduceToNat, Nat.reducePow, Int.reduceEq, Int.reduceNe, Int.reduceLT, Int.reduceLE, Nat.reduceAdd, Nat.reduceLeDiff, ↓reduceIte, Nat.reduceLT, Nat.reduceMul, Nat.reduceSub, reduceCtorEq, frzLoc, rowCells, vAppM, beq_iff_eq, bne_iff_ne, bne_self_eq_false, beq_self_eq_true, beq_true, beq_false, I, B, w, vf204_res, vf204_keep, e109t, h1, m]))))
theorem e115_0 (f h a0 b0 a1 b1 p0 p1 l0 l1 r0 r1 : Int) : CV VP 203 [bxV f h a0 b0 a1 b1 p0 p1 l0 l1 r0 r1, .d (I 0)] [] = some ⟨.agg [.d (I f), .d (U h), .d (U a0)], [], [], 0⟩ := by
  refine CV_run (vf := vf203) rfl rfl ?_
  rw [vf203_start]
  (repeat (first
    | refine RX_seq ?_
    | refine RX_block ?_
    | ((first | refine RX_reg ?_ | refine RX_cond' ?_ | refine RX_draw0 ?_ | refine RX_draw rfl ?_ | refine RX_skip ?_ | refine RX_exit ?_ | refine RX_ret ?_); try (simp only [go_sem, Int.reduceToNat, Nat.reducePow, Int.reduceEq, Int.reduceNe, Int.reduceLT, Int.reduceLE, Nat.reduceAdd, Nat.reduceLeDiff, ↓reduceIte, Nat.reduceLT, Nat.reduceMul, Nat.reduceSub, reduceCtorEq, frzLoc, rowCells, vAppM, beq_iff_eq, bne_iff_ne, bne_self_eq_false, beq_self_eq_true, beq_true, beq_false, I, B, w, vf203_res, vf203_keep]))))
theorem e117_0 (f h a0 b0 a1 b1 p0 p1 l0 l1 r0 r1 : Int) : CV VP 205 [bxV f h a0 b0 a1 b1 p0 p1 l0 l1 r0 r1, .d (I 0)] [] = some ⟨.agg [.d (I f), .d (U h), .d (U b0)], [], [], 0⟩ := by
  refine CV_run (vf := vf205) rfl rfl ?_
  rw [vf205_start]
  (repeat (first
    | refine RX_seq ?_
    | refine RX_block ?_
    | ((first | refine RX_reg ?_ | refine RX_cond' ?_ | refine RX_draw0 ?_ | refine RX_draw rfl ?_ | refine RX_skip ?_ | refine RX_exit ?_ | refine RX_ret ?_); try (simp only [go_sem, Int.reduceToNat, Nat.reducePow, Int.reduceEq, Int.reduceNe, Int.reduceLT, Int.reduceLE, Nat.reduceAdd, Nat.reduceLeDiff, ↓reduceIte, Nat.reduceLT, Nat.reduceMul, Nat.reduceSub, reduceCtorEq, frzLoc, rowCells, vAppM, beq_iff_eq, bne_iff_ne, bne_self_eq_false, beq_self_eq_true, beq_true, beq_false, I, B, w, vf205_res, vf205_keep]))))
theorem e118_0 (f h a0 b0 a1 b1 p0 p1 l0 l1 r0 r1 a b : Int) : CV VP 206 [bxV f h a0 b0 a1 b1 p0 p1 l0 l1 r0 r1, .d (I 0), .agg [.d (I f), .d (U h), .d (U a)], .agg [.d (I f), .d (U h), .d (U b)]] [] = some ⟨bxV f h a b a1 b1 p0 p1 l0 l1 r0 r1, [], [], 0⟩ := by
  refine CV_run (vf := vf206) rfl rfl ?_
  rw [vf206_start]
  (repeat (first
    | refine RX_seq ?_
    | refine RX_block ?_
    | ((first | refine RX_reg ?_ | refine RX_cond' ?_ | refine RX_draw0 ?_ | refine RX_draw rfl ?_ | refine RX_skip ?_ | refine RX_exit ?_ | refine RX_ret ?_); try (simp only [go_sem, Int.reduceToNat, Nat.reducePow, Int.reduceEq, Int.reduceNe, Int.reduceLT, Int.reduceLE, Nat.reduceAdd, Nat.reduceLeDiff, ↓reduceIte, Nat.reduceLT, Nat.reduceMul, Nat.reduceSub, reduceCtorEq, frzLoc, rowCells, vAppM, beq_iff_eq, bne_iff_ne, bne_self_eq_false, beq_self_eq_true, beq_true, beq_false, I, B, w, vf206_res, vf206_keep]))))
theorem e115_1 (f h a0 b0 a1 b1 p0 p1 l0 l1 r0 r1 : Int) : CV VP 203 [bxV f h a0 b0 a1 b1 p0 p1 l0 l1 r0 r1, .d (I 1)] [] = some ⟨.agg [.d (I f), .d (U h), .d (U a1)], [], [], 0⟩ := by
  refine CV_run (vf := vf203) rfl rfl ?_
  rw [vf203_start]
  (repeat (first
    | refine RX_seq ?_
    | refine RX_block ?_
    | ((first | refine RX_reg ?_ | refine RX_cond' ?_ | refine RX_draw0 ?_ | refine RX_draw rfl ?_ | refine RX_skip ?_ | refine RX_exit ?_ | refine RX_ret ?_); try (simp only [go_sem, Int.reduceToNat, Nat.reducePow, Int.reduceEq, Int.reduceNe, Int.reduceLT, Int.reduceLE, Nat.reduceAdd, Nat.reduceLeDiff, ↓reduceIte, Nat.reduceLT, Nat.reduceMul, Nat.reduceSub, reduceCtorEq, frzLoc, rowCells, vAppM, beq_iff_eq, bne_iff_ne, bne_self_eq_false, beq_self_eq_true, beq_true, beq_false, I, B, w, vf203_res, vf203_keep]))))
theorem e117_1 (f h a0 b0 a1 b1 p0 p1 l0 l1 r0 r1 : Int) : CV VP 205 [bxV f h a0 b0 a1 b1 p0 p1 l0 l1 r0 r1, .d (I 1)] [] = some ⟨.agg [.d (I f), .d (U h), .d (U b1)], [], [], 0⟩ := by
  refine CV_run (vf := vf205) rfl rfl ?_
  rw [vf205_start]
  (repeat (first
    | refine RX_seq ?_
    | refine RX_block ?_
    | ((first | refine RX_reg ?_ | refine RX_cond' ?_ | refine RX_draw0 ?_ | refine RX_draw rfl ?_ | refine RX_skip ?_ | refine RX_exit ?_ | refine RX_ret ?_); try (simp only [go_sem, Int.reduceToNat, Nat.reducePow, Int.reduceEq, Int.reduceNe, Int.reduceLT, Int.reduceLE, Nat.reduceAdd, Nat.reduceLeDiff, ↓reduceIte, Nat.reduceLT, Nat.reduceMul, Nat.reduceSub, reduceCtorEq, frzLoc, rowCells, vAppM, beq_iff_eq, bne_iff_ne, bne_self_eq_false, beq_self_eq_true, beq_true, beq_false, I, B, w, vf205_res, vf205_keep]))))
theorem e118_1 (f h a0 b0 a1 b1 p0 p1 l0 l1 r0 r1 a b : Int) : CV VP 206 [bxV f h a0 b0 a1 b1 p0 p1 l0 l1 r0 r1, .d (I 1), .agg [.d (I f), .d (U h), .d (U a)], .agg [.d (I f), .d (U h), .d (U b)]] [] = some ⟨bxV f h a0 b0 a b p0 p1 l0 l1 r0 r1, [], [], 0⟩ := by
  refine CV_run (vf := vf206) rfl rfl ?_
  rw [vf206_start]
  (repeat (first
    | refine RX_seq ?_
    | refine RX_block ?_
    | ((first | refine RX_reg ?_ | refine RX_cond' ?_ | refine RX_draw0 ?_ | refine RX_draw rfl ?_ | refine RX_skip ?_ | refine RX_exit ?_ | refine RX_ret ?_); try (simp only [go_sem, Int.reduceToNat, Nat.reducePow, Int.reduceEq, Int.reduceNe, Int.reduceLT, Int.reduceLE, Nat.reduceAdd, Nat.reduceLeDiff, ↓reduceIte, Nat.reduceLT, Nat.reduceMul, Nat.reduceSub, reduceCtorEq, frzLoc, rowCells, vAppM, beq_iff_eq, bne_iff_ne, bne_self_eq_false, beq_self_eq_true, beq_true, beq_false, I, B, w, vf206_res, vf206_keep]))))
theorem e115_2 (f h a0 b0 a1 b1 p0 p1 l0 l1 r0 r1 : Int) (hn : num p0) : CV VP 203 [bxV f h a0 b0 a1 b1 p0 p1 l0 l1 r0 r1, .d (I 2)] [] = some ⟨.agg [.d (I 0), .d (U 0), .d (U (p0 + 1))], [], [], 0⟩ := by
  refine CV_run (vf := vf203) rfl rfl ?_
  rw [vf203_start]
  (repeat (first
    | refine RX_seq ?_
    | refine RX_block ?_
    | ((first | refine RX_reg ?_ | refine RX_cond' ?_ | refine RX_draw0 ?_ | refine RX_draw rfl ?_ | refine RX_skip ?_ | refine RX_exit ?_ | refine RX_ret ?_); try (simp only [go_sem, Int.reduceToNat, Nat.reducePow, Int.reduceEq, Int.reduceNe, Int.reduceLT, Int.reduceLE, Nat.reduceAdd, Nat.reduceLeDiff, ↓reduceIte, Nat.reduceLT, Nat.reduceMul, Nat.reduceSub, reduceCtorEq, frzLoc, rowCells, vAppM, beq_iff_eq, bne_iff_ne, bne_self_eq_false, beq_self_eq_true, beq_true, beq_false, I, B, w, vf203_res, vf203_keep, e129, num_u hn]))))
theorem e117_2 (f h a0 b0 a1 b1 p0 p1 l0 l1 r0 r1 : Int) (hn : num p1) : CV VP 205 [bxV f h a0 b0 a1 b1 p0 p1 l0 l1 r0 r1, .d (I 2)] [] = some ⟨.agg [.d (I 0), .d (U 0), .d (U (p1 + 1))], [], [], 0⟩ := by
  refine CV_run (vf := vf205) rfl rfl ?_
  rw [vf205_start]
  (repeat (first
    | refine RX_seq ?_
    | refine RX_block ?_
    | ((first | refine RX_reg ?_ | refine RX_cond' ?_ | refine RX_draw0 ?_ | refine RX_draw rfl ?_ | refine RX_skip ?_ | refine RX_exit ?_ | refine RX_ret ?_); try (simp only [go_sem, Int.reduceToNat, Nat.reducePow, Int.reduceEq, Int.reduceNe, Int.reduceLT, Int.reduceLE, Nat.reduceAdd, Nat.reduceLeDiff, ↓reduceIte, Nat.reduceLT, Nat.reduceMul, Nat.reduceSub, reduceCtorEq, frzLoc, rowCells, vAppM, beq_iff_eq, bne_iff_ne, bne_self_eq_false, beq_self_eq_true, beq_true, beq_false, I, B, w, vf205_res, vf205_keep, e129, num_u hn]))))
theorem e118_2 (f h a0 b0 a1 b1 p0 p1 l0 l1 r0 r1 a b : Int) (hn : num a) (hm : num b) : CV VP 206 [bxV f h a0 b0 a1 b1 p0 p1 l0 l1 r0 r1, .d (I 2), .agg [.d (I 0), .d (U 0), .d (U (a + 1))], .agg [.d (I 0), .d (U 0), .d (U (b + 1))]] [] = some ⟨bxV f h a0 b0 a1 b1 a b l0 l1 r0 r1, [], [], 0⟩ := by
  have n1 := num_d2 hn
  have n2 := num_d2 hm
  refine CV_run (vf := vf206) rfl rfl ?_
  rw [vf206_start]
  (repeat (first
    | refine RX_seq ?_
    | refine RX_block ?_
    | ((first | refine RX_reg ?_ | refine RX_cond' ?_ | refine RX_draw0 ?_ | refine RX_draw rfl ?_ | refine RX_skip ?_ | refine RX_exit ?_ | refine RX_ret ?_); try (simp only [go_sem, Int.reduceToNat, Nat.reducePow, Int.reduceEq, Int.reduceNe, Int.reduceLT, Int.reduceLE, Nat.reduceAdd, Nat.reduceLeDiff, ↓reduceIte, Nat.reduceLT, Nat.reduceMul, Nat.reduceSub, reduceCtorEq, frzLoc, rowCells, vAppM, beq_iff_eq, bne_iff_ne, bne_self_eq_false, beq_self_eq_true, beq_true, beq_false, I, B, w, vf206_res, vf206_keep, n1, n2]))))
theorem e115_3 (f h a0 b0 a1 b1 p0 p1 l0 l1 r0 r1 : Int) (hn : num l0) : CV VP 203 [bxV f h a0 b0 a1 b1 p0 p1 l0 l1 r0 r1, .d (I 3)] [] = some ⟨.agg [.d (I 0), .d (U 0), .d (U (l0 + 1))], [], [], 0⟩ := by
  refine CV_run (vf := vf203) rfl rfl ?_
  rw [vf203_start]
  (repeat (first
    | refine RX_seq ?_
    | refine RX_block ?_
    | ((first | refine RX_reg ?_ | refine RX_cond' ?_ | refine RX_draw0 ?_ | refine RX_draw rfl ?_ | refine RX_skip ?_ | refine RX_exit ?_ | refine RX_ret ?_); try (simp only [go_sem, Int.reduceToNat, Nat.reducePow, Int.reduceEq, Int.reduceNe, Int.reduceLT, Int.reduceLE, Nat.reduceAdd, Nat.reduceLeDiff, ↓reduceIte, Nat.reduceLT, Nat.reduceMul, Nat.reduceSub, reduceCtorEq, frzLoc, rowCells, vAppM, beq_iff_eq, bne_iff_ne, bne_self_eq_false, beq_self_eq_true, beq_true, beq_false, I, B, w, vf203_res, vf203_keep, e129, num_u hn]))))
theorem e117_3 (f h a0 b0 a1 b1 p0 p1 l0 l1 r0 r1 : Int) (hn : num l1) : CV VP 205 [bxV f h a0 b0 a1 b1 p0 p1 l0 l1 r0 r1, .d (I 3)] [] = some ⟨.agg [.d (I 0), .d (U 0), .d (U (l1 + 1))], [], [], 0⟩ := by
  refine CV_run (vf := vf205) rfl rfl ?_
  rw [vf205_start]
  (repeat (first
    | refine RX_seq ?_
    | refine RX_block ?_
    | ((first | refine RX_reg ?_ | refine RX_cond' ?_ | refine RX_draw0 ?_ | refine RX_draw rfl ?_ | refine RX_skip ?_ | refine RX_exit ?_ | refine RX_ret ?_); try (simp only [go_sem, Int.reduceToNat, Nat.reducePow, Int.reduceEq, Int.reduceNe, Int.reduceLT, Int.reduceLE, Nat.reduceAdd, Nat.reduceLeDiff, ↓reduceIte, Nat.reduceLT, Nat.reduceMul, Nat.reduceSub, reduceCtorEq, frzLoc, rowCells, vAppM, beq_iff_eq, bne_iff_ne, bne_self_eq_false, beq_self_eq_true, beq_true, beq_false, I, B, w, vf205_res, vf205_keep, e129, num_u hn]))))
theorem e118_3 (f h a0 b0 a1 b1 p0 p1 l0 l1 r0 r1 a b : Int) (hn : num a) (hm : num b) : CV VP 206 [bxV f h a0 b0 a1 b1 p0 p1 l0 l1 r0 r1, .d (I 3), .agg [.d (I 0), .d (U 0), .d (U (a + 1))], .agg [.d (I 0), .d (U 0), .d (U (b + 1))]] [] = some ⟨bxV f h a0 b0 a1 b1 p0 p1 a b r0 r1, [], [], 0⟩ := by
  have n1 := num_d2 hn
  have n2 := num_d2 hm
  refine CV_run (vf := vf206) rfl rfl ?_
  rw [vf206_start]
  (repeat (first
    | refine RX_seq ?_
    | refine RX_block ?_
    | ((first | refine RX_reg ?_ | refine RX_cond' ?_ | refine RX_draw0 ?_ | refine RX_draw rfl ?_ | refine RX_skip ?_ | refine RX_exit ?_ | refine RX_ret ?_); try (simp only [go_sem, Int.reduceToNat, Nat.reducePow, Int.reduceEq, Int.reduceNe, Int.reduceLT, Int.reduceLE, Nat.reduceAdd, Nat.reduceLeDiff, ↓reduceIte, Nat.reduceLT, Nat.reduceMul, Nat.reduceSub, reduceCtorEq, frzLoc, rowCells, vAppM, beq_iff_eq, bne_iff_ne, bne_self_eq_false, beq_self_eq_true, beq_true, beq_false, I, B, w, vf206_res, vf206_keep, n1, n2]))))
theorem e115_4 (f h a0 b0 a1 b1 p0 p1 l0 l1 r0 r1 : Int) (hn : num r0) : CV VP 203 [bxV f h a0 b0 a1 b1 p0 p1 l0 l1 r0 r1, .d (I 4)] [] = some ⟨.agg [.d (I 0), .d (U 0), .d (U (r0 + 1))], [], [], 0⟩ := by
  refine CV_run (vf := vf203) rfl rfl ?_
  rw [vf203_start]
  (repeat (first
    | refine RX_seq ?_
    | refine RX_block ?_
    | ((first | refine RX_reg ?_ | refine RX_cond' ?_ | refine RX_draw0 ?_ | refine RX_draw rfl ?_ | refine RX_skip ?_ | refine RX_exit ?_ | refine RX_ret ?_); try (simp only [go_sem, Int.reduceToNat, Nat.reducePow, Int.reduceEq, Int.reduceNe, Int.reduceLT, Int.reduceLE, Nat.reduceAdd, Nat.reduceLeDiff, ↓reduceIte, Nat.reduceLT, Nat.reduceMul, Nat.reduceSub, reduceCtorEq, frzLoc, rowCells, vAppM, beq_iff_eq, bne_iff_ne, bne_self_eq_false, beq_self_eq_true, beq_true, beq_false, I, B, w, vf203_res, vf203_keep, e129, num_u hn]))))
theorem e117_4 (f h a0 b0 a1 b1 p0 p1 l0 l1 r0 r1 : Int) (hn : num r1) : CV VP 205 [bxV f h a0 b0 a1 b1 p0 p1 l0 l1 r0 r1, .d (I 4)] [] = some ⟨.agg [.d (I 0), .d (U 0), .d (U (r1 + 1))], [], [], 0⟩ := by
  refine CV_run (vf := vf205) rfl rfl ?_
  rw [vf205_start]
  (repeat (first
    | refine RX_seq ?_
    | refine RX_block ?_
    | ((first | refine RX_reg ?_ | refine RX_cond' ?_ | refine RX_draw0 ?_ | refine RX_draw rfl ?_ | refine RX_skip ?_ | refine RX_exit ?_ | refine RX_ret ?_); try (simp only [go_sem, Int.reduceToNat, Nat.reducePow, Int.reduceEq, Int.reduceNe, Int.reduceLT, Int.reduceLE, Nat.reduceAdd, Nat.reduceLeDiff, ↓reduceIte, Nat.reduceLT, Nat.reduceMul, Nat.reduceSub, reduceCtorEq, frzLoc, rowCells, vAppM, beq_iff_eq, bne_iff_ne, bne_self_eq_false, beq_self_eq_true, beq_true, beq_false, I, B, w, vf205_res, vf205_keep, e129, num_u hn]))))
theorem e118_4 (f h a0 b0 a1 b1 p0 p1 l0 l1 r0 r1 a b : Int) (hn : num a) (hm : num b) : CV VP 206 [bxV f h a0 b0 a1 b1 p0 p1 l0 l1 r0 r1, .d (I 4), .agg [.d (I 0), .d (U 0), .d (U (a + 1))], .agg [.d (I 0), .d (U 0), .d (U (b + 1))]] [] = some ⟨bxV f h a0 b0 a1 b1 p0 p1 l0 l1 a b, [], [], 0⟩ := by
  have n1 := num_d2 hn
  have n2 := num_d2 hm
  refine CV_run (vf := vf206) rfl rfl ?_
  rw [vf206_start]
  (repeat (first
    | refine RX_seq ?_
    | refine RX_block ?_
    | ((first | refine RX_reg ?_ | refine RX_cond' ?_ | refine RX_draw0 ?_ | refine RX_draw rfl ?_ | refine RX_skip ?_ | refine RX_exit ?_ | refine RX_ret ?_); try (simp only [go_sem, Int.reduceToNat, Nat.reducePow, Int.reduceEq, Int.reduceNe, Int.reduceLT, Int.reduceLE, Nat.reduceAdd, Nat.reduceLeDiff, ↓reduceIte, Nat.reduceLT, Nat.reduceMul, Nat.reduceSub, reduceCtorEq, frzLoc, rowCells, vAppM, beq_iff_eq, bne_iff_ne, bne_self_eq_false, beq_self_eq_true, beq_true, beq_false, I, B, w, vf206_res, vf206_keep, n1, n2]))))
set_option maxHeartbeats 4000000 in
theorem e93s (f h a0 b0 a1 b1 p0 p1 l0 l1 r0 r1 a0' b0' a1' b1' p0' p1' l0' l1' r0' r1' : Int) (n0 : num p0) (n1 : num p1) (n2 : num l0) (n3 : num l1) (n4 : num r0) (n5 : num r1) (n6 : num p0') (n7 : num p1') (n8 : num l0') (n9 : num l1') (n10 : num r0') (n11 : num r1') : CV VP 169 [bxV f h a0 b0 a1 b1 p0 p1 l0 l1 r0 r1, bxV f h a0' b0' a1' b1' p0' p1' l0' l1' r0' r1'] [] = some (if max a0 a0' ≤ min b0 b0' ∧ max a1 a1' ≤ min b1 b1' ∧ max p0 p0' ≤ min p1 p1' ∧ max l0 l0' ≤ min l1 l1' ∧ max r0 r0' ≤ min r1 r1' then ⟨.tup [bxV f h (max a0 a0') (min b0 b0') (max a1 a1') (min b1 b1') (max p0 p0') (min p1 p1') (max l0 l0') (min l1 l1') (max r0 r0') (min r1 r1'), .d (B true)], [], [], 0⟩ else ⟨.tup [Bx.zero.ag, .d (B false)], [], [], 0⟩) := by
  have w1 : IntKind.i64.wrap (0 + 1) = 1 := rfl
  have w2 : IntKind.i64.wrap (1 + 1) = 2 := rfl
  have w3 : IntKind.i64.wrap (2 + 1) = 3 := rfl
  have w4 : IntKind.i64.wrap (3 + 1) = 4 := rfl
  have w5 : IntKind.i64.wrap (4 + 1) = 5 := rfl
  have x2 := e115_2 f h a0 b0 a1 b1 p0 p1 l0 l1 r0 r1 n0
  have y2 := e117_2 f h a0 b0 a1 b1 p0 p1 l0 l1 r0 r1 n1
  have u2 := e115_2 f h a0' b0' a1' b1' p0' p1' l0' l1' r0' r1' n6
  have v2 := e117_2 f h a0' b0' a1' b1' p0' p1' l0' l1' r0' r1' n7
  have z2 := e118_2 f h (max a0 a0') (min b0 b0') (max a1 a1') (min b1 b1') p0 p1 l0 l1 r0 r1 (max p0 p0') (min p1 p1') (num_mx n0 n6) (num_mn n1 n7)
  have x3 := e115_3 f h a0 b0 a1 b1 p0 p1 l0 l1 r0 r1 n2
  have y3 := e117_3 f h a0 b0 a1 b1 p0 p1 l0 l1 r0 r1 n3
  have u3 := e115_3 f h a0' b0' a1' b1' p0' p1' l0' l1' r0' r1' n8
  have v3 := e117_3 f h a0' b0' a1' b1' p0' p1' l0' l1' r0' r1' n9
  have z3 := e118_3 f h (max a0 a0') (min b0 b0') (max a1 a1') (min b1 b1') (max p0 p0') (min p1 p1') l0 l1 r0 r1 (max l0 l0') (min l1 l1') (num_mx n2 n8) (num_mn n3 n9)
  have x4 := e115_4 f h a0 b0 a1 b1 p0 p1 l0 l1 r0 r1 n4
  have y4 := e117_4 f h a0 b0 a1 b1 p0 p1 l0 l1 r0 r1 n5
  have u4 := e115_4 f h a0' b0' a1' b1' p0' p1' l0' l1' r0' r1' n10
  have v4 := e117_4 f h a0' b0' a1' b1' p0' p1' l0' l1' r0' r1' n11
  have z4 := e118_4 f h (max a0 a0') (min b0 b0') (max a1 a1') (min b1 b1') (max p0 p0') (min p1 p1') (max l0 l0') (min l1 l1') r0 r1 (max r0 r0') (min r1 r1') (num_mx n4 n10) (num_mn n5 n11)
  by_cases h0 : max a0 a0' ≤ min b0 b0'
  · have g0 : ¬ (min b0 b0' < max a0 a0') := by omega
    by_cases h1 : max a1 a1' ≤ min b1 b1'
    · have g1 : ¬ (min b1 b1' < max a1 a1') := by omega
      by_cases h2 : max p0 p0' ≤ min p1 p1'
      · have g2 : ¬ (min p1 p1' < max p0 p0') := by omega
        by_cases h3 : max l0 l0' ≤ min l1 l1'
        · have g3 : ¬ (min l1 l1' < max l0 l0') := by omega
          by_cases h4 : max r0 r0' ≤ min r1 r1'
          · have g4 : ¬ (min r1 r1' < max r0 r0') := by omega
            rw [if_pos ⟨h0, h1, h2, h3, h4⟩]
            refine CV_run (vf := vf169) rfl rfl ?_
            rw [vf169_start]
            (repeat (first
    | refine RX_seq ?_
    | refine RX_block ?_
    | ((first | refine RX_reg ?_ | refine RX_cond' ?_ | refine RX_draw0 ?_ | refine RX_draw rfl ?_ | refine RX_skip ?_ | refine RX_exit ?_ | refine RX_ret ?_); try (simp only [go_sem, Int.reduceToNat, Nat.reducePow, Int.reduceEq, Int.reduceNe, Int.reduceLT, Int.reduceLE, Nat.reduceAdd, Nat.reduceLeDiff, ↓reduceIte, Nat.reduceLT, Nat.reduceMul, Nat.reduceSub, reduceCtorEq, frzLoc, rowCells, vAppM, beq_iff_eq, bne_iff_ne, bne_self_eq_false, beq_self_eq_true, beq_true, beq_false, I, B, w, vf169_res, vf169_keep]))))
            refine RX_loop ?_
            (refine RL_head ?_; (simp only [go_sem, Int.reduceToNat, Nat.reducePow, Int.reduceEq, Int.reduceNe, Int.reduceLT, Int.reduceLE, Nat.reduceAdd, Nat.reduceLeDiff, ↓reduceIte, Nat.reduceLT, Nat.reduceMul, Nat.reduceSub, reduceCtorEq, frzLoc, rowCells, vAppM, beq_iff_eq, bne_iff_ne, bne_self_eq_false, beq_self_eq_true, beq_true, beq_false, I, B, w, St.head, forget, vf169K0, RLK_some, vf169_res, vf169_keep, e114, e116, e109t, maxp, minp, lt1, e115_0, e117_0, e118_0, e115_1, e117_1, e118_1, x2, y2, u2, v2, z2, x3, y3, u3, v3, z3, x4, y4, u4, v4, z4, g0, g1, g2, g3, g4, w1]); refine vf169L0_go ?_; ((repeat (first
    | refine RX_seq ?_
    | refine RX_block ?_
    | ((first | refine RX_reg ?_ | refine RX_cond' ?_ | refine RX_draw0 ?_ | refine RX_draw rfl ?_ | refine RX_skip ?_ | refine RX_exit ?_ | refine RX_ret ?_); try (simp only [go_sem, Int.reduceToNat, Nat.reducePow, Int.reduceEq, Int.reduceNe, Int.reduceLT, Int.reduceLE, Nat.reduceAdd, Nat.reduceLeDiff, ↓reduceIte, Nat.reduceLT, Nat.reduceMul, Nat.reduceSub, reduceCtorEq, frzLoc, rowCells, vAppM, beq_iff_eq, bne_iff_ne, bne_self_eq_false, beq_self_eq_true, beq_true, beq_false, I, B, w, vf169_res, vf169_keep, e114, e116, e109t, maxp, minp, lt1, e115_0, e117_0, e118_0, e115_1, e117_1, e118_1, x2, y2, u2, v2, z2, x3, y3, u3, v3, z3, x4, y4, u4, v4, z4, g0, g1, g2, g3, g4, w1]))))))
            (refine RL_head ?_; (simp only [go_sem, Int.reduceToNat, Nat.reducePow, Int.reduceEq, Int.reduceNe, Int.reduceLT, Int.reduceLE, Nat.reduceAdd, Nat.reduceLeDiff, ↓reduceIte, Nat.reduceLT, Nat.reduceMul, Nat.reduceSub, reduceCtorEq, frzLoc, rowCells, vAppM, beq_iff_eq, bne_iff_ne, bne_self_eq_false, beq_self_eq_true, beq_true, beq_false, I, B, w, St.head, forget, vf169K0, RLK_some, vf169_res, vf169_keep, e114, e116, e109t, maxp, minp, lt1, e115_0, e117_0, e118_0, e115_1, e117_1, e118_1, x2, y2, u2, v2, z2, x3, y3, u3, v3, z3, x4, y4, u4, v4, z4, g0, g1, g2, g3, g4, w2]); refine vf169L0_go ?_; ((repeat (first
    | refine RX_seq ?_
    | refine RX_block ?_
    | ((first | refine RX_reg ?_ | refine RX_cond' ?_ | refine RX_draw0 ?_ | refine RX_draw rfl ?_ | refine RX_skip ?_ | refine RX_exit ?_ | refine RX_ret ?_); try (simp only [go_sem, Int.reduceToNat, Nat.reducePow, Int.reduceEq, Int.reduceNe, Int.reduceLT, Int.reduceLE, Nat.reduceAdd, Nat.reduceLeDiff, ↓reduceIte, Nat.reduceLT, Nat.reduceMul, Nat.reduceSub, reduceCtorEq, frzLoc, rowCells, vAppM, beq_iff_eq, bne_iff_ne, bne_self_eq_false, beq_self_eq_true, beq_true, beq_false, I, B, w, vf169_res, vf169_keep, e114, e116, e109t, maxp, minp, lt1, e115_0, e117_0, e118_0, e115_1, e117_1, e118_1, x2, y2, u2, v2, z2, x3, y3, u3, v3, z3, x4, y4, u4, v4, z4, g0, g1, g2, g3, g4, w2]))))))
            (refine RL_head ?_; (simp only [go_sem, Int.reduceToNat, Nat.reducePow, Int.reduceEq, Int.reduceNe, Int.reduceLT, Int.reduceLE, Nat.reduceAdd, Nat.reduceLeDiff, ↓reduceIte, Nat.reduceLT, Nat.reduceMul, Nat.reduceSub, reduceCtorEq, frzLoc, rowCells, vAppM, beq_iff_eq, bne_iff_ne, bne_self_eq_false, beq_self_eq_true, beq_true, beq_false, I, B, w, St.head, forget, vf169K0, RLK_some, vf169_res, vf169_keep, e114, e116, e109t, maxp, minp, lt1, e115_0, e117_0, e118_0, e115_1, e117_1, e118_1, x2, y2, u2, v2, z2, x3, y3, u3, v3, z3, x4, y4, u4, v4, z4, g0, g1, g2, g3, g4, w3]); refine vf169L0_go ?_; ((repeat (first
    | refine RX_seq ?_
    | refine RX_block ?_
    | ((first | refine RX_reg ?_ | refine RX_cond' ?_ | refine RX_draw0 ?_ | refine RX_draw rfl ?_ | refine RX_skip ?_ | refine RX_exit ?_ | refine RX_ret ?_); try (simp only [go_sem, Int.reduceToNat, Nat.reducePow, Int.reduceEq, Int.reduceNe, Int.reduceLT, Int.reduceLE, Nat.reduceAdd, Nat.reduceLeDiff, ↓reduceIte, Nat.reduceLT, Nat.reduceMul, Nat.reduceSub, reduceCtorEq, frzLoc, rowCells, vAppM, beq_iff_eq, bne_iff_ne, bne_self_eq_false, beq_self_eq_true, beq_true, beq_false, I, B, w, vf169_res, vf169_keep, e114, e116, e109t, maxp, minp, lt1, e115_0, e117_0, e118_0, e115_1, e117_1, e118_1, x2, y2, u2, v2, z2, x3, y3, u3, v3, z3, x4, y4, u4, v4, z4, g0, g1, g2, g3, g4, w3]))))))
            (refine RL_head ?_; (simp only [go_sem, Int.reduceToNat, Nat.reducePow, Int.reduceEq, Int.reduceNe, Int.reduceLT, Int.reduceLE, Nat.reduceAdd, Nat.reduceLeDiff, ↓reduceIte, Nat.reduceLT, Nat.reduceMul, Nat.reduceSub, reduceCtorEq, frzLoc, rowCells, vAppM, beq_iff_eq, bne_iff_ne, bne_self_eq_false, beq_self_eq_true, beq_true, beq_false, I, B, w, St.head, forget, vf169K0, RLK_some, vf169_res, vf169_keep, e114, e116, e109t, maxp, minp, lt1, e115_0, e117_0, e118_0, e115_1, e117_1, e118_1, x2, y2, u2, v2, z2, x3, y3, u3, v3, z3, x4, y4, u4, v4, z4, g0, g1, g2, g3, g4, w4]); refine vf169L0_go ?_; ((repeat (first
    | refine RX_seq ?_
    | refine RX_block ?_
    | ((first | refine RX_reg ?_ | refine RX_cond' ?_ | refine RX_draw0 ?_ | refine RX_draw rfl ?_ | refine RX_skip ?_ | refine RX_exit ?_ | refine RX_ret ?_); try (simp only [go_sem, Int.reduceToNat, Nat.reducePow, Int.reduceEq, Int.reduceNe, Int.reduceLT, Int.reduceLE, Nat.reduceAdd, Nat.reduceLeDiff, ↓reduceIte, Nat.reduceLT, Nat.reduceMul, Nat.reduceSub, reduceCtorEq, frzLoc, rowCells, vAppM, beq_iff_eq, bne_iff_ne, bne_self_eq_false, beq_self_eq_true, beq_true, beq_false, I, B, w, vf169_res, vf169_keep, e114, e116, e109t, maxp, minp, lt1, e115_0, e117_0, e118_0, e115_1, e117_1, e118_1, x2, y2, u2, v2, z2, x3, y3, u3, v3, z3, x4, y4, u4, v4, z4, g0, g1, g2, g3, g4, w4]))))))
            (refine RL_head ?_; (simp only [go_sem, Int.reduceToNat, Nat.reducePow, Int.reduceEq, Int.reduceNe, Int.reduceLT, Int.reduceLE, Nat.reduceAdd, Nat.reduceLeDiff, ↓reduceIte, Nat.reduceLT, Nat.reduceMul, Nat.reduceSub, reduceCtorEq, frzLoc, rowCells, vAppM, beq_iff_eq, bne_iff_ne, bne_self_eq_false, beq_self_eq_true, beq_true, beq_false, I, B, w, St.head, forget, vf169K0, RLK_some, vf169_res, vf169_keep, e114, e116, e109t, maxp, minp, lt1, e115_0, e117_0, e118_0, e115_1, e117_1, e118_1, x2, y2, u2, v2, z2, x3, y3, u3, v3, z3, x4, y4, u4, v4, z4, g0, g1, g2, g3, g4, w5]); refine vf169L0_go ?_; ((repeat (first
    | refine RX_seq ?_
    | refine RX_block ?_
    | ((first | refine RX_reg ?_ | refine RX_cond' ?_ | refine RX_draw0 ?_ | refine RX_draw rfl ?_ | refine RX_skip ?_ | refine RX_exit ?_ | refine RX_ret ?_); try (simp only [go_sem, Int.reduceToNat, Nat.reducePow, Int.reduceEq, Int.reduceNe, Int.reduceLT, Int.reduceLE, Nat.reduceAdd, Nat.reduceLeDiff, ↓reduceIte, Nat.reduceLT, Nat.reduceMul, Nat.reduceSub, reduceCtorEq, frzLoc, rowCells, vAppM, beq_iff_eq, bne_iff_ne, bne_self_eq_false, beq_self_eq_true, beq_true, beq_false, I, B, w, vf169_res, vf169_keep, e114, e116, e109t, maxp, minp, lt1, e115_0, e117_0, e118_0, e115_1, e117_1, e118_1, x2, y2, u2, v2, z2, x3, y3, u3, v3, z3, x4, y4, u4, v4, z4, g0, g1, g2, g3, g4, w5]))))))
            (refine RL_head ?_; (simp only [go_sem, Int.reduceToNat, Nat.reducePow, Int.reduceEq, Int.reduceNe, Int.reduceLT, Int.reduceLE, Nat.reduceAdd, Nat.reduceLeDiff, ↓reduceIte, Nat.reduceLT, Nat.reduceMul, Nat.reduceSub, reduceCtorEq, frzLoc, rowCells, vAppM, beq_iff_eq, bne_iff_ne, bne_self_eq_false, beq_self_eq_true, beq_true, beq_false, I, B, w, St.head, forget, vf169K0, RLK_some, vf169_res, vf169_keep, e114, e116, e109t, maxp, minp, lt1, e115_0, e117_0, e118_0, e115_1, e117_1, e118_1, x2, y2, u2, v2, z2, x3, y3, u3, v3, z3, x4, y4, u4, v4, z4, g0, g1, g2, g3, g4]); refine vf169L0_go ?_; ((repeat (first
    | refine RX_seq ?_
    | refine RX_block ?_
    | ((first | refine RX_reg ?_ | refine RX_cond' ?_ | refine RX_draw0 ?_ | refine RX_draw rfl ?_ | refine RX_skip ?_ | refine RX_exit ?_ | refine RX_ret ?_); try (simp only [go_sem, Int.reduceToNat, Nat.reducePow, Int.reduceEq, Int.reduceNe, Int.reduceLT, Int.reduceLE, Nat.reduceAdd, Nat.reduceLeDiff, ↓reduceIte, Nat.reduceLT, Nat.reduceMul, Nat.reduceSub, reduceCtorEq, frzLoc, rowCells, vAppM, beq_iff_eq, bne_iff_ne, bne_self_eq_false, beq_self_eq_true, beq_true, beq_false, I, B, w, vf169_res, vf169_keep, e114, e116, e109t, maxp, minp, lt1, e115_0, e117_0, e118_0, e115_1, e117_1, e118_1, x2, y2, u2, v2, z2, x3, y3, u3, v3, z3, x4, y4, u4, v4, z4, g0, g1, g2, g3, g4]))))))
          · have g4 : min r1 r1' < max r0 r0' := by omega
            rw [if_neg (fun hh => h4 hh.2.2.2.2)]
            refine CV_run (vf := vf169) rfl rfl ?_
            rw [vf169_start]
            (repeat (first
    | refine RX_seq ?_
    | refine RX_block ?_
    | ((first | refine RX_reg ?_ | refine RX_cond' ?_ | refine RX_draw0 ?_ | refine RX_draw rfl ?_ | refine RX_skip ?_ | refine RX_exit ?_ | refine RX_ret ?_); try (simp only [go_sem, Int.reduceToNat, Nat.reducePow, Int.reduceEq, Int.reduceNe, Int.reduceLT, Int.reduceLE, Nat.reduceAdd, Nat.reduceLeDiff, ↓reduceIte, Nat.reduceLT, Nat.reduceMul, Nat.reduceSub, reduceCtorEq, frzLoc, rowCells, vAppM, beq_iff_eq, bne_iff_ne, bne_self_eq_false, beq_self_eq_true, beq_true, beq_false, I, B, w, vf169_res, vf169_keep]))))
            refine RX_loop ?_
            (refine RL_head ?_; (simp only [go_sem, Int.reduceToNat, Nat.reducePow, Int.reduceEq, Int.reduceNe, Int.reduceLT, Int.reduceLE, Nat.reduceAdd, Nat.reduceLeDiff, ↓reduceIte, Nat.reduceLT, Nat.reduceMul, Nat.reduceSub, reduceCtorEq, frzLoc, rowCells, vAppM, beq_iff_eq, bne_iff_ne, bne_self_eq_false, beq_self_eq_true, beq_true, beq_false, I, B, w, St.head, forget, vf169K0, RLK_some, vf169_res, vf169_keep, e114, e116, e109t, maxp, minp, lt1, e115_0, e117_0, e118_0, e115_1, e117_1, e118_1, x2, y2, u2, v2, z2, x3, y3, u3, v3, z3, x4, y4, u4, v4, z4, g0, g1, g2, g3, g4, w1]); refine vf169L0_go ?_; ((repeat (first
    | refine RX_seq ?_
    | refine RX_block ?_
    | ((first | refine RX_reg ?_ | refine RX_cond' ?_ | refine RX_draw0 ?_ | refine RX_draw rfl ?_ | refine RX_skip ?_ | refine RX_exit ?_ | refine RX_ret ?_); try (simp only [go_sem, Int.reduceToNat, Nat.reducePow, Int.reduceEq, Int.reduceNe, Int.reduceLT, Int.reduceLE, Nat.reduceAdd, Nat.reduceLeDiff, ↓reduceIte, Nat.reduceLT, Nat.reduceMul, Nat.reduceSub, reduceCtorEq, frzLoc, rowCells, vAppM, beq_iff_eq, bne_iff_ne, bne_self_eq_false, beq_self_eq_true, beq_true, beq_false, I, B, w, vf169_res, vf169_keep, e114, e116, e109t, maxp, minp, lt1, e115_0, e117_0, e118_0, e115_1, e117_1, e118_1, x2, y2, u2, v2, z2, x3, y3, u3, v3, z3, x4, y4, u4, v4, z4, g0, g1, g2, g3, g4, w1]))))))
            (refine RL_head ?_; (simp only [go_sem, Int.reduceToNat, Nat.reducePow, Int.reduceEq, Int.reduceNe, Int.reduceLT, Int.reduceLE, Nat.reduceAdd, Nat.reduceLeDiff, ↓reduceIte, Nat.reduceLT, Nat.reduceMul, Nat.reduceSub, reduceCtorEq, frzLoc, rowCells, vAppM, beq_iff_eq, bne_iff_ne, bne_self_eq_false, beq_self_eq_true, beq_true, beq_false, I, B, w, St.head, forget, vf169K0, RLK_some, vf169_res, vf169_keep, e114, e116, e109t, maxp, minp, lt1, e115_0, e117_0, e118_0, e115_1, e117_1, e118_1, x2, y2, u2, v2, z2, x3, y3, u3, v3, z3, x4, y4, u4, v4, z4, g0, g1, g2, g3, g4, w2]); refine vf169L0_go ?_; ((repeat (first
    | refine RX_seq ?_
    | refine RX_block ?_
    | ((first | refine RX_reg ?_ | refine RX_cond' ?_ | refine RX_draw0 ?_ | refine RX_draw rfl ?_ | refine RX_skip ?_ | refine RX_exit ?_ | refine RX_ret ?_); try (simp only [go_sem, Int.reduceToNat, Nat.reducePow, Int.reduceEq, Int.reduceNe, Int.reduceLT, Int.reduceLE, Nat.reduceAdd, Nat.reduceLeDiff, ↓reduceIte, Nat.reduceLT, Nat.reduceMul, Nat.reduceSub, reduceCtorEq, frzLoc, rowCells, vAppM, beq_iff_eq, bne_iff_ne, bne_self_eq_false, beq_self_eq_true, beq_true, beq_false, I, B, w, vf169_res, vf169_keep, e114, e116, e109t, maxp, minp, lt1, e115_0, e117_0, e118_0, e115_1, e117_1, e118_1, x2, y2, u2, v2, z2, x3, y3, u3, v3, z3, x4, y4, u4, v4, z4, g0, g1, g2, g3, g4, w2]))))))
            (refine RL_head ?_; (simp only [go_sem, Int.reduceToNat, Nat.reducePow, Int.reduceEq, Int.reduceNe, Int.reduceLT, Int.reduceLE, Nat.reduceAdd, Nat.reduceLeDiff, ↓reduceIte, Nat.reduceLT, Nat.reduceMul, Nat.reduceSub, reduceCtorEq, frzLoc, rowCells, vAppM, beq_iff_eq, bne_iff_ne, bne_self_eq_false, beq_self_eq_true, beq_true, beq_false, I, B, w, St.head, forget, vf169K0, RLK_some, vf169_res, vf169_keep, e114, e116, e109t, maxp, minp, lt1, e115_0, e117_0, e118_0, e115_1, e117_1, e118_1, x2, y2, u2, v2, z2, x3, y3, u3, v3, z3, x4, y4, u4, v4, z4, g0, g1, g2, g3, g4, w3]); refine vf169L0_go ?_; ((repeat (first
    | refine RX_seq ?_
    | refine RX_block ?_
    | ((first | refine RX_reg ?_ | refine RX_cond' ?_ | refine RX_draw0 ?_ | refine RX_draw rfl ?_ | refine RX_skip ?_ | refine RX_exit ?_ | refine RX_ret ?_); try (simp only [go_sem, Int.reduceToNat, Nat.reducePow, Int.reduceEq, Int.reduceNe, Int.reduceLT, Int.reduceLE, Nat.reduceAdd, Nat.reduceLeDiff, ↓reduceIte, Nat.reduceLT, Nat.reduceMul, Nat.reduceSub, reduceCtorEq, frzLoc, rowCells, vAppM, beq_iff_eq, bne_iff_ne, bne_self_eq_false, beq_self_eq_true, beq_true, beq_false, I, B, w, vf169_res, vf169_keep, e114, e116, e109t, maxp, minp, lt1, e115_0, e117_0, e118_0, e115_1, e117_1, e118_1, x2, y2, u2, v2, z2, x3, y3, u3, v3, z3, x4, y4, u4, v4, z4, g0, g1, g2, g3, g4, w3]))))))
            (refine RL_head ?_; (simp only [go_sem, Int.reduceToNat, Nat.reducePow, Int.reduceEq, Int.reduceNe, Int.reduceLT, Int.reduceLE, Nat.reduceAdd, Nat.reduceLeDiff, ↓reduceIte, Nat.reduceLT, Nat.reduceMul, Nat.reduceSub, reduceCtorEq, frzLoc, rowCells, vAppM, beq_iff_eq, bne_iff_ne, bne_self_eq_false, beq_self_eq_true, beq_true, beq_false, I, B, w, St.head, forget, vf169K0, RLK_some, vf169_res, vf169_keep, e114, e116, e109t, maxp, minp, lt1, e115_0, e117_0, e118_0, e115_1, e117_1, e118_1, x2, y2, u2, v2, z2, x3, y3, u3, v3, z3, x4, y4, u4, v4, z4, g0, g1, g2, g3, g4, w4]); refine vf169L0_go ?_; ((repeat (first
    | refine RX_seq ?_
    | refine RX_block ?_
    | ((first | refine RX_reg ?_ | refine RX_cond' ?_ | refine RX_draw0 ?_ | refine RX_draw rfl ?_ | refine RX_skip ?_ | refine RX_exit ?_ | refine RX_ret ?_); try (simp only [go_sem, Int.reduceToNat, Nat.reducePow, Int.reduceEq, Int.reduceNe, Int.reduceLT, Int.reduceLE, Nat.reduceAdd, Nat.reduceLeDiff, ↓reduceIte, Nat.reduceLT, Nat.reduceMul, Nat.reduceSub, reduceCtorEq, frzLoc, rowCells, vAppM, beq_iff_eq, bne_iff_ne, bne_self_eq_false, beq_self_eq_true, beq_true, beq_false, I, B, w, vf169_res, vf169_keep, e114, e116, e109t, maxp, minp, lt1, e115_0, e117_0, e118_0, e115_1, e117_1, e118_1, x2, y2, u2, v2, z2, x3, y3, u3, v3, z3, x4, y4, u4, v4, z4, g0, g1, g2, g3, g4, w4]))))))
            (refine RL_head ?_; (simp only [go_sem, Int.reduceToNat, Nat.reducePow, Int.reduceEq, Int.reduceNe, Int.reduceLT, Int.reduceLE, Nat.reduceAdd, Nat.reduceLeDiff, ↓reduceIte, Nat.reduceLT, Nat.reduceMul, Nat.reduceSub, reduceCtorEq, frzLoc, rowCells, vAppM, beq_iff_eq, bne_iff_ne, bne_self_eq_false, beq_self_eq_true, beq_true, beq_false, I, B, w, St.head, forget, vf169K0, RLK_some, vf169_res, vf169_keep, e114, e116, e109t, maxp, minp, lt1, e115_0, e117_0, e118_0, e115_1, e117_1, e118_1, x2, y2, u2, v2, z2, x3, y3, u3, v3, z3, x4, y4, u4, v4, z4, g0, g1, g2, g3, g4, w5]); refine vf169L0_go ?_; ((repeat (first
    | refine RX_seq ?_
    | refine RX_block ?_
    | ((first | refine RX_reg ?_ | refine RX_cond' ?_ | refine RX_draw0 ?_ | refine RX_draw rfl ?_ | refine RX_skip ?_ | refine RX_exit ?_ | refine RX_ret ?_); try (simp only [go_sem, Int.reduceToNat, Nat.reducePow, Int.reduceEq, Int.reduceNe, Int.reduceLT, Int.reduceLE, Nat.reduceAdd, Nat.reduceLeDiff, ↓reduceIte, Nat.reduceLT, Nat.reduceMul, Nat.reduceSub, reduceCtorEq, frzLoc, rowCells, vAppM, beq_iff_eq, bne_iff_ne, bne_self_eq_false, beq_self_eq_true, beq_true, beq_false, I, B, w, vf169_res, vf169_keep, e114, e116, e109t, maxp, minp, lt1, e115_0, e117_0, e118_0, e115_1, e117_1, e118_1, x2, y2, u2, v2, z2, x3, y3, u3, v3, z3, x4, y4, u4, v4, z4, g0, g1, g2, g3, g4, w5]))))))
        · have g3 : min l1 l1' < max l0 l0' := by omega
          rw [if_neg (fun hh => h3 hh.2.2.2.1)]
          refine CV_run (vf := vf169) rfl rfl ?_
          rw [vf169_start]
          (repeat (first
    | refine RX_seq ?_
    | refine RX_block ?_
    | ((first | refine RX_reg ?_ | refine RX_cond' ?_ | refine RX_draw0 ?_ | refine RX_draw rfl ?_ | refine RX_skip ?_ | refine RX_exit ?_ | refine RX_ret ?_); try (simp only [go_sem, Int.reduceToNat, Nat.reducePow, Int.reduceEq, Int.reduceNe, Int.reduceLT, Int.reduceLE, Nat.reduceAdd, Nat.reduceLeDiff, ↓reduceIte, Nat.reduceLT, Nat.reduceMul, Nat.reduceSub, reduceCtorEq, frzLoc, rowCells, vAppM, beq_iff_eq, bne_iff_ne, bne_self_eq_false, beq_self_eq_true, beq_true, beq_false, I, B, w, vf169_res, vf169_keep]))))
          refine RX_loop ?_
          (refine RL_head ?_; (simp only [go_sem, Int.reduceToNat, Nat.reducePow, Int.reduceEq, Int.reduceNe, Int.reduceLT, Int.reduceLE, Nat.reduceAdd, Nat.reduceLeDiff, ↓reduceIte, Nat.reduceLT, Nat.reduceMul, Nat.reduceSub, reduceCtorEq, frzLoc, rowCells, vAppM, beq_iff_eq, bne_iff_ne, bne_self_eq_false, beq_self_eq_true, beq_true, beq_false, I, B, w, St.head, forget, vf169K0, RLK_some, vf169_res, vf169_keep, e114, e116, e109t, maxp, minp, lt1, e115_0, e117_0, e118_0, e115_1, e117_1, e118_1, x2, y2, u2, v2, z2, x3, y3, u3, v3, z3, x4, y4, u4, v4, z4, g0, g1, g2, g3, w1]); refine vf169L0_go ?_; ((repeat (first
    | refine RX_seq ?_
    | refine RX_block ?_
    | ((first | refine RX_reg ?_ | refine RX_cond' ?_ | refine RX_draw0 ?_ | refine RX_draw rfl ?_ | refine RX_skip ?_ | refine RX_exit ?_ | refine RX_ret ?_); try (simp only [go_sem, Int.reduceToNat, Nat.reducePow, Int.reduceEq, Int.reduceNe, Int.reduceLT, Int.reduceLE, Nat.reduceAdd, Nat.reduceLeDiff, ↓reduceIte, Nat.reduceLT, Nat.reduceMul, Nat.reduceSub, reduceCtorEq, frzLoc, rowCells, vAppM, beq_iff_eq, bne_iff_ne, bne_self_eq_false, beq_self_eq_true, beq_true, beq_false, I, B, w, vf169_res, vf169_keep, e114, e116, e109t, maxp, minp, lt1, e115_0, e117_0, e118_0, e115_1, e117_1, e118_1, x2, y2, u2, v2, z2, x3, y3, u3, v3, z3, x4, y4, u4, v4, z4, g0, g1, g2, g3, w1]))))))
          (refine RL_head ?_; (simp only [go_sem, Int.reduceToNat, Nat.reducePow, Int.reduceEq, Int.reduceNe, Int.reduceLT, Int.reduceLE, Nat.reduceAdd, Nat.reduceLeDiff, ↓reduceIte, Nat.reduceLT, Nat.reduceMul, Nat.reduceSub, reduceCtorEq, frzLoc, rowCells, vAppM, beq_iff_eq, bne_iff_ne, bne_self_eq_false, beq_self_eq_true, beq_true, beq_false, I, B, w, St.head, forget, vf169K0, RLK_some, vf169_res, vf169_keep, e114, e116, e109t, maxp, minp, lt1, e115_0, e117_0, e118_0, e115_1, e117_1, e118_1, x2, y2, u2, v2, z2, x3, y3, u3, v3, z3, x4, y4, u4, v4, z4, g0, g1, g2, g3, w2]); refine vf169L0_go ?_; ((repeat (first
    | refine RX_seq ?_
    | refine RX_block ?_
    | ((first | refine RX_reg ?_ | refine RX_cond' ?_ | refine RX_draw0 ?_ | refine RX_draw rfl ?_ | refine RX_skip ?_ | refine RX_exit ?_ | refine RX_ret ?_); try (simp only [go_sem, Int.reduceToNat, Nat.reducePow, Int.reduceEq, Int.reduceNe, Int.reduceLT, Int.reduceLE, Nat.reduceAdd, Nat.reduceLeDiff, ↓reduceIte, Nat.reduceLT, Nat.reduceMul, Nat.reduceSub, reduceCtorEq, frzLoc, rowCells, vAppM, beq_iff_eq, bne_iff_ne, bne_self_eq_false, beq_self_eq_true, beq_true, beq_false, I, B, w, vf169_res, vf169_keep, e114, e116, e109t, maxp, minp, lt1, e115_0, e117_0, e118_0, e115_1, e117_1, e118_1, x2, y2, u2, v2, z2, x3, y3, u3, v3, z3, x4, y4, u4, v4, z4, g0, g1, g2, g3, w2]))))))
          (refine RL_head ?_; (simp only [go_sem, Int.reduceToNat, Nat.reducePow, Int.reduceEq, Int.reduceNe, Int.reduceLT, Int.reduceLE, Nat.reduceAdd, Nat.reduceLeDiff, ↓reduceIte, Nat.reduceLT, Nat.reduceMul, Nat.reduceSub, reduceCtorEq, frzLoc, rowCells, vAppM, beq_iff_eq, bne_iff_ne, bne_self_eq_false, beq_self_eq_true, beq_true, beq_false, I, B, w, St.head, forget, vf169K0, RLK_some, vf169_res, vf169_keep, e114, e116, e109t, maxp, minp, lt1, e115_0, e117_0, e118_0, e115_1, e117_1, e118_1, x2, y2, u2, v2, z2, x3, y3, u3, v3, z3, x4, y4, u4, v4, z4, g0, g1, g2, g3, w3]); refine vf169L0_go ?_; ((repeat (first
    | refine RX_seq ?_
    | refine RX_block ?_
    | ((first | refine RX_reg ?_ | refine RX_cond' ?_ | refine RX_draw0 ?_ | refine RX_draw rfl ?_ | refine RX_skip ?_ | refine RX_exit ?_ | refine RX_ret ?_); try (simp only [go_sem, Int.reduceToNat, Nat.reducePow, Int.reduceEq, Int.reduceNe, Int.reduceLT, Int.reduceLE, Nat.reduceAdd, Nat.reduceLeDiff, ↓reduceIte, Nat.reduceLT, Nat.reduceMul, Nat.reduceSub, reduceCtorEq, frzLoc, rowCells, vAppM, beq_iff_eq, bne_iff_ne, bne_self_eq_false, beq_self_eq_true, beq_true, beq_false, I, B, w, vf169_res, vf169_keep, e114, e116, e109t, maxp, minp, lt1, e115_0, e117_0, e118_0, e115_1, e117_1, e118_1, x2, y2, u2, v2, z2, x3, y3, u3, v3, z3, x4, y4, u4, v4, z4, g0, g1, g2, g3, w3]))))))
          (refine RL_head ?_; (simp only [go_sem, Int.reduceToNat, Nat.reducePow, Int.reduceEq, Int.reduceNe, Int.reduceLT, Int.reduceLE, Nat.reduceAdd, Nat.reduceLeDiff, ↓reduceIte, Nat.reduceLT, Nat.reduceMul, Nat.reduceSub, reduceCtorEq, frzLoc, rowCells, vAppM, beq_iff_eq, bne_iff_ne, bne_self_eq_false, beq_self_eq_true, beq_true, beq_false, I, B, w, St.head, forget, vf169K0, RLK_some, vf169_res, vf169_keep, e114, e116, e109t, maxp, minp, lt1, e115_0, e117_0, e118_0, e115_1, e117_1, e118_1, x2, y2, u2, v2, z2, x3, y3, u3, v3, z3, x4, y4, u4, v4, z4, g0, g1, g2, g3, w4]); refine vf169L0_go ?_; ((repeat (first
    | refine RX_seq ?_
    | refine RX_block ?_
    | ((first | refine RX_reg ?_ | refine RX_cond' ?_ | refine RX_draw0 ?_ | refine RX_draw rfl ?_ | refine RX_skip ?_ | refine RX_exit ?_ | refine RX_ret ?_); try (simp only [go_sem, Int.reduceToNat, Nat.reducePow, Int.reduceEq, Int.reduceNe, Int.reduceLT, Int.reduceLE, Nat.reduceAdd, Nat.reduceLeDiff, ↓reduceIte, Nat.reduceLT, Nat.reduceMul, Nat.reduceSub, reduceCtorEq, frzLoc, rowCells, vAppM, beq_iff_eq, bne_iff_ne, bne_self_eq_false, beq_self_eq_true, beq_true, beq_false, I, B, w, vf169_res, vf169_keep, e114, e116, e109t, maxp, minp, lt1, e115_0, e117_0, e118_0, e115_1, e117_1, e118_1, x2, y2, u2, v2, z2, x3, y3, u3, v3, z3, x4, y4, u4, v4, z4, g0, g1, g2, g3, w4]))))))
      · have g2 : min p1 p1' < max p0 p0' := by omega
        rw [if_neg (fun hh => h2 hh.2.2.1)]
        refine CV_run (vf := vf169) rfl rfl ?_
        rw [vf169_start]
        (repeat (first
    | refine RX_seq ?_
    | refine RX_block ?_
    | ((first | refine RX_reg ?_ | refine RX_cond' ?_ | refine RX_draw0 ?_ | refine RX_draw rfl ?_ | refine RX_skip ?_ | refine RX_exit ?_ | refine RX_ret ?_); try (simp only [go_sem, Int.reduceToNat, Nat.reducePow, Int.reduceEq, Int.reduceNe, Int.reduceLT, Int.reduceLE, Nat.reduceAdd, Nat.reduceLeDiff, ↓reduceIte, Nat.reduceLT, Nat.reduceMul, Nat.reduceSub, reduceCtorEq, frzLoc, rowCells, vAppM, beq_iff_eq, bne_iff_ne, bne_self_eq_false, beq_self_eq_true, beq_true, beq_false, I, B, w, vf169_res, vf169_keep]))))
        refine RX_loop ?_
        (refine RL_head ?_; (simp only [go_sem, Int.reduceToNat, Nat.reducePow, Int.reduceEq, Int.reduceNe, Int.reduceLT, Int.reduceLE, Nat.reduceAdd, Nat.reduceLeDiff, ↓reduceIte, Nat.reduceLT, Nat.reduceMul, Nat.reduceSub, reduceCtorEq, frzLoc, rowCells, vAppM, beq_iff_eq, bne_iff_ne, bne_self_eq_false, beq_self_eq_true, beq_true, beq_false, I, B, w, St.head, forget, vf169K0, RLK_some, vf169_res, vf169_keep, e114, e116, e109t, maxp, minp, lt1, e115_0, e117_0, e118_0, e115_1, e117_1, e118_1, x2, y2, u2, v2, z2, x3, y3, u3, v3, z3, x4, y4, u4, v4, z4, g0, g1, g2, w1]); refine vf169L0_go ?_; ((repeat (first
    | refine RX_seq ?_
    | refine RX_block ?_
    | ((first | refine RX_reg ?_ | refine RX_cond' ?_ | refine RX_draw0 ?_ | refine RX_draw rfl ?_ | refine RX_skip ?_ | refine RX_exit ?_ | refine RX_ret ?_); try (simp only [go_sem, Int.reduceToNat, Nat.reducePow, Int.reduceEq, Int.reduceNe, Int.reduceLT, Int.reduceLE, Nat.reduceAdd, Nat.reduceLeDiff, ↓reduceIte, Nat.reduceLT, Nat.reduceMul, Nat.reduceSub, reduceCtorEq, frzLoc, rowCells, vAppM, beq_iff_eq, bne_iff_ne, bne_self_eq_false, beq_self_eq_true, beq_true, beq_false, I, B, w, vf169_res, vf169_keep, e114, e116, e109t, maxp, minp, lt1, e115_0, e117_0, e118_0, e115_1, e117_1, e118_1, x2, y2, u2, v2, z2, x3, y3, u3, v3, z3, x4, y4, u4, v4, z4, g0, g1, g2, w1]))))))
        (refine RL_head ?_; (simp only [go_sem, Int.reduceToNat, Nat.reducePow, Int.reduceEq, Int.reduceNe, Int.reduceLT, Int.reduceLE, Nat.reduceAdd, Nat.reduceLeDiff, ↓reduceIte, Nat.reduceLT, Nat.reduceMul, Nat.reduceSub, reduceCtorEq, frzLoc, rowCells, vAppM, beq_iff_eq, bne_iff_ne, bne_self_eq_false, beq_self_eq_true, beq_true, beq_false, I, B, w, St.head, forget, vf169K0, RLK_some, vf169_res, vf169_keep, e114, e116, e109t, maxp, minp, lt1, e115_0, e117_0, e118_0, e115_1, e117_1, e118_1, x2, y2, u2, v2, z2, x3, y3, u3, v3, z3, x4, y4, u4, v4, z4, g0, g1, g2, w2]); refine vf169L0_go ?_; ((repeat (first
    | refine RX_seq ?_
    | refine RX_block ?_
    | ((first | refine RX_reg ?_ | refine RX_cond' ?_ | refine RX_draw0 ?_ | refine RX_draw rfl ?_ | refine RX_skip ?_ | refine RX_exit ?_ | refine RX_ret ?_); try (simp only [go_sem, Int.reduceToNat, Nat.reducePow, Int.reduceEq, Int.reduceNe, Int.reduceLT, Int.reduceLE, Nat.reduceAdd, Nat.reduceLeDiff, ↓reduceIte, Nat.reduceLT, Nat.reduceMul, Nat.reduceSub, reduceCtorEq, frzLoc, rowCells, vAppM, beq_iff_eq, bne_iff_ne, bne_self_eq_false, beq_self_eq_true, beq_true, beq_false, I, B, w, vf169_res, vf169_keep, e114, e116, e109t, maxp, minp, lt1, e115_0, e117_0, e118_0, e115_1, e117_1, e118_1, x2, y2, u2, v2, z2, x3, y3, u3, v3, z3, x4, y4, u4, v4, z4, g0, g1, g2, w2]))))))
        (refine RL_head ?_; (simp only [go_sem, Int.reduceToNat, Nat.reducePow, Int.reduceEq, Int.reduceNe, Int.reduceLT, Int.reduceLE, Nat.reduceAdd, Nat.reduceLeDiff, ↓reduceIte, Nat.reduceLT, Nat.reduceMul, Nat.reduceSub, reduceCtorEq, frzLoc, rowCells, vAppM, beq_iff_eq, bne_iff_ne, bne_self_eq_false, beq_self_eq_true, beq_true, beq_false, I, B, w, St.head, forget, vf169K0, RLK_some, vf169_res, vf169_keep, e114, e116, e109t, maxp, minp, lt1, e115_0, e117_0, e118_0, e115_1, e117_1, e118_1, x2, y2, u2, v2, z2, x3, y3, u3, v3, z3, x4, y4, u4, v4, z4, g0, g1, g2, w3]); refine vf169L0_go ?_; ((repeat (first
    | refine RX_seq ?_
    | refine RX_block ?_
    | ((first | refine RX_reg ?_ | refine RX_cond' ?_ | refine RX_draw0 ?_ | refine RX_draw rfl ?_ | refine RX_skip ?_ | refine RX_exit ?_ | refine RX_ret ?_); try (simp only [go_sem, Int.reduceToNat, Nat.reducePow, Int.reduceEq, Int.reduceNe, Int.reduceLT, Int.reduceLE, Nat.reduceAdd, Nat.reduceLeDiff, ↓reduceIte, Nat.reduceLT, Nat.reduceMul, Nat.reduceSub, reduceCtorEq, frzLoc, rowCells, vAppM, beq_iff_eq, bne_iff_ne, bne_self_eq_false, beq_self_eq_true, beq_true, beq_false, I, B, w, vf169_res, vf169_keep, e114, e116, e109t, maxp, minp, lt1, e115_0, e117_0, e118_0, e115_1, e117_1, e118_1, x2, y2, u2, v2, z2, x3, y3, u3, v3, z3, x4, y4, u4, v4, z4, g0, g1, g2, w3]))))))
    · have g1 : min b1 b1' < max a1 a1' := by omega
      rw [if_neg (fun hh => h1 hh.2.1)]
      refine CV_run (vf := vf169) rfl rfl ?_
      rw [vf169_start]
      (repeat (first
    | refine RX_seq ?_
    | refine RX_block ?_
    | ((first | refine RX_reg ?_ | refine RX_cond' ?_ | refine RX_draw0 ?_ | refine RX_draw rfl ?_ | refine RX_skip ?_ | refine RX_exit ?_ | refine RX_ret ?_); try (simp only [go_sem, Int.reduceToNat, Nat.reducePow, Int.reduceEq, Int.reduceNe, Int.reduceLT, Int.reduceLE, Nat.reduceAdd, Nat.reduceLeDiff, ↓reduceIte, Nat.reduceLT, Nat.reduceMul, Nat.reduceSub, reduceCtorEq, frzLoc, rowCells, vAppM, beq_iff_eq, bne_iff_ne, bne_self_eq_false, beq_self_eq_true, beq_true, beq_false, I, B, w, vf169_res, vf169_keep]))))
      refine RX_loop ?_
      (refine RL_head ?_; (simp only [go_sem, Int.reduceToNat, Nat.reducePow, Int.reduceEq, Int.reduceNe, Int.reduceLT, Int.reduceLE, Nat.reduceAdd, Nat.reduceLeDiff, ↓reduceIte, Nat.reduceLT, Nat.reduceMul, Nat.reduceSub, reduceCtorEq, frzLoc, rowCells, vAppM, beq_iff_eq, bne_iff_ne, bne_self_eq_false, beq_self_eq_true, beq_true, beq_false, I, B, w, St.head, forget, vf169K0, RLK_some, vf169_res, vf169_keep, e114, e116, e109t, maxp, minp, lt1, e115_0, e117_0, e118_0, e115_1, e117_1, e118_1, x2, y2, u2, v2, z2, x3, y3, u3, v3, z3, x4, y4, u4, v4, z4, g0, g1, w1]); refine vf169L0_go ?_; ((repeat (first
    | refine RX_seq ?_
    | refine RX_block ?_
    | ((first | refine RX_reg ?_ | refine RX_cond' ?_ | refine RX_draw0 ?_ | refine RX_draw rfl ?_ | refine RX_skip ?_ | refine RX_exit ?_ | refine RX_ret ?_); try (simp only [go_sem, Int.reduceToNat, Nat.reducePow, Int.reduceEq, Int.reduceNe, Int.reduceLT, Int.reduceLE, Nat.reduceAdd, Nat.reduceLeDiff, ↓reduceIte, Nat.reduceLT, Nat.reduceMul, Nat.reduceSub, reduceCtorEq, frzLoc, rowCells, vAppM, beq_iff_eq, bne_iff_ne, bne_self_eq_false, beq_self_eq_true, beq_true, beq_false, I, B, w, vf169_res, vf169_keep, e114, e116, e109t, maxp, minp, lt1, e115_0, e117_0, e118_0, e115_1, e117_1, e118_1, x2, y2, u2, v2, z2, x3, y3, u3, v3, z3, x4, y4, u4, v4, z4, g0, g1, w1]))))))
      (refine RL_head ?_; (simp only [go_sem, Int.reduceToNat, Nat.reducePow, Int.reduceEq, Int.reduceNe, Int.reduceLT, Int.reduceLE, Nat.reduceAdd, Nat.reduceLeDiff, ↓reduceIte, Nat.reduceLT, Nat.reduceMul, Nat.reduceSub, reduceCtorEq, frzLoc, rowCells, vAppM, beq_iff_eq, bne_iff_ne, bne_self_eq_false, beq_self_eq_true, beq_true, beq_false, I, B, w, St.head, forget, vf169K0, RLK_some, vf169_res, vf169_keep, e114, e116, e109t, maxp, minp, lt1, e115_0, e117_0, e118_0, e115_1, e117_1, e118_1, x2, y2, u2, v2, z2, x3, y3, u3, v3, z3, x4, y4, u4, v4, z4, g0, g1, w2]); refine vf169L0_go ?_; ((repeat (first
    | refine RX_seq ?_
    | refine RX_block ?_
    | ((first | refine RX_reg ?_ | refine RX_cond' ?_ | refine RX_draw0 ?_ | refine RX_draw rfl ?_ | refine RX_skip ?_ | refine RX_exit ?_ | refine RX_ret ?_); try (simp only [go_sem, Int.reduceToNat, Nat.reducePow, Int.reduceEq, Int.reduceNe, Int.reduceLT, Int.reduceLE, Nat.reduceAdd, Nat.reduceLeDiff, ↓reduceIte, Nat.reduceLT, Nat.reduceMul, Nat.reduceSub, reduceCtorEq, frzLoc, rowCells, vAppM, beq_iff_eq, bne_iff_ne, bne_self_eq_false, beq_self_eq_true, beq_true, beq_false, I, B, w, vf169_res, vf169_keep, e114, e116, e109t, maxp, minp, lt1, e115_0, e117_0, e118_0, e115_1, e117_1, e118_1, x2, y2, u2, v2, z2, x3, y3, u3, v3, z3, x4, y4, u4, v4, z4, g0, g1, w2]))))))
  · have g0 : min b0 b0' < max a0 a0' := by omega
    rw [if_neg (fun hh => h0 hh.1)]
    refine CV_run (vf := vf169) rfl rfl ?_
    rw [vf169_start]
    (repeat (first
    | refine RX_seq ?_
    | refine RX_block ?_
    | ((first | refine RX_reg ?_ | refine RX_cond' ?_ | refine RX_draw0 ?_ | refine RX_draw rfl ?_ | refine RX_skip ?_ | refine RX_exit ?_ | refine RX_ret ?_); try (simp only [go_sem, Int.reduceToNat, Nat.reducePow, Int.reduceEq, Int.reduceNe, Int.reduceLT, Int.reduceLE, Nat.reduceAdd, Nat.reduceLeDiff, ↓reduceIte, Nat.reduceLT, Nat.reduceMul, Nat.reduceSub, reduceCtorEq, frzLoc, rowCells, vAppM, beq_iff_eq, bne_iff_ne, bne_self_eq_false, beq_self_eq_true, beq_true, beq_false, I, B, w, vf169_res, vf169_keep]))))
    refine RX_loop ?_
    (refine RL_head ?_; (simp only [go_sem, Int.reduceToNat, Nat.reducePow, Int.reduceEq, Int.reduceNe, Int.reduceLT, Int.reduceLE, Nat.reduceAdd, Nat.reduceLeDiff, ↓reduceIte, Nat.reduceLT, Nat.reduceMul, Nat.reduceSub, reduceCtorEq, frzLoc, rowCells, vAppM, beq_iff_eq, bne_iff_ne, bne_self_eq_false, beq_self_eq_true, beq_true, beq_false, I, B, w, St.head, forget, vf169K0, RLK_some, vf169_res, vf169_keep, e114, e116, e109t, maxp, minp, lt1, e115_0, e117_0, e118_0, e115_1, e117_1, e118_1, x2, y2, u2, v2, z2, x3, y3, u3, v3, z3, x4, y4, u4, v4, z4, g0, w1]); refine vf169L0_go ?_; ((repeat (first
    | refine RX_seq ?_
    | refine RX_block ?_
    | ((first | refine RX_reg ?_ | refine RX_cond' ?_ | refine RX_draw0 ?_ | refine RX_draw rfl ?_ | refine RX_skip ?_ | refine RX_exit ?_ | refine RX_ret ?_); try (simp only [go_sem, Int.reduceToNat, Nat.reducePow, Int.reduceEq, Int.reduceNe, Int.reduceLT, Int.reduceLE, Nat.reduceAdd, Nat.reduceLeDiff, ↓reduceIte, Nat.reduceLT, Nat.reduceMul, Nat.reduceSub, reduceCtorEq, frzLoc, rowCells, vAppM, beq_iff_eq, bne_iff_ne, bne_self_eq_false, beq_self_eq_true, beq_true, beq_false, I, B, w, vf169_res, vf169_keep, e114, e116, e109t, maxp, minp, lt1, e115_0, e117_0, e118_0, e115_1, e117_1, e118_1, x2, y2, u2, v2, z2, x3, y3, u3, v3, z3, x4, y4, u4, v4, z4, g0, w1]))))))
theorem e93 (x y : Bx) (hx : x.ok) (hy : y.ok) : CV VP 169 [x.ag, y.ag] [] = some (x.meetR y) := by
  unfold Bx.meetR
  by_cases hf : x.f = y.f
  · have hh : x.h = y.h := by have a := hx.fam; have b := hy.fam; omega
    have m1 := e93s x.f x.h x.a0 x.b0 x.a1 x.b1 x.p0 x.p1 x.l0 x.l1 x.r0 x.r1 y.a0 y.b0 y.a1 y.b1 y.p0 y.p1 y.l0 y.l1 y.r0 y.r1 hx.p0 hx.p1 hx.l0 hx.l1 hx.r0 hx.r1 hy.p0 hy.p1 hy.l0 hy.l1 hy.r0 hy.r1
    show CV VP 169 [bxV x.f x.h x.a0 x.b0 x.a1 x.b1 x.p0 x.p1 x.l0 x.l1 x.r0 x.r1, bxV y.f y.h y.a0 y.b0 y.a1 y.b1 y.p0 y.p1 y.l0 y.l1 y.r0 y.r1] [] = _
    rw [← hf, ← hh, m1]
    by_cases ho : x.over y
    · have ho2 := ho
      unfold Bx.over at ho2
      rw [if_pos ho2, if_pos ⟨rfl, ho⟩]; rfl
    · have ho2 := ho
      unfold Bx.over at ho2
      rw [if_neg ho2, if_neg (fun q => ho q.2)]
  · rw [if_neg (fun q => hf q.1)]
    refine CV_run (vf := vf169) rfl rfl ?_
    rw [vf169_start]
    (repeat (first
    | refine RX_seq ?_
    | refine RX_block ?_
    | ((first | refine RX_reg ?_ | refine RX_cond' ?_ | refine RX_draw0 ?_ | refine RX_draw rfl ?_ | refine RX_skip ?_ | refine RX_exit ?_ | refine RX_ret ?_); try (simp only [go_sem, Int.reduceToNat, Nat.reducePow, Int.reduceEq, Int.reduceNe, Int.reduceLT, Int.reduceLE, Nat.reduceAdd, Nat.reduceLeDiff, ↓reduceIte, Nat.reduceLT, Nat.reduceMul, Nat.reduceSub, reduceCtorEq, frzLoc, rowCells, vAppM, beq_iff_eq, bne_iff_ne, bne_self_eq_false, beq_self_eq_true, beq_true, beq_false, I, B, w, vf169_res, vf169_keep, hf]))))
end Go.Proofs.Ytciaehhaglaafaa

namespace Go.Proofs.Ytciaehhaglaafaa
open Go.VM
def Bx.beq (x y : Bx) : Bool := decide (x.f = y.f) && (decide (x.h = y.h) && (decide (x.a0 = y.a0) && (decide (x.b0 = y.b0) && (decide (x.a1 = y.a1) && (decide (x.b1 = y.b1) && (decide (x.p0 = y.p0) && (decide (x.p1 = y.p1) && (decide (x.l0 = y.l0) && (decide (x.l1 = y.l1) && (decide (x.r0 = y.r0) && decide (x.r1 = y.r1)))))))))))
theorem Bx.swap_ok {x : Bx} (h : x.ok) : x.swap.ok := ⟨h.fam, h.p0, h.p1, h.r0, h.r1, h.l0, h.l1⟩
theorem Bx.meet_ok {x y : Bx} (h : x.ok) (k : y.ok) : (x.meet y).ok := ⟨h.fam, num_mx h.p0 k.p0, num_mn h.p1 k.p1, num_mx h.l0 k.l0, num_mn h.l1 k.l1, num_mx h.r0 k.r0, num_mn h.r1 k.r1⟩
/-- x lies in y -/
def Bx.within (x y : Bx) : Prop := x.f = y.f ∧ x.over y ∧ x.meet y = x
theorem max_r (a b : Int) : max (max a b) b = max a b := by omega
theorem min_r (a b : Int) : min (min a b) b = min a b := by omega
theorem within_right {x y : Bx} (hf : x.f = y.f) (ho : x.over y) : (x.meet y).within y := by
  unfold Bx.within Bx.over Bx.meet at *
  simp only [max_r, min_r, and_true]
  exact ⟨hf, ho⟩
end Go.Proofs.Ytciaehhaglaafaa

namespace Go.Proofs.Ytciaehhaglaafaa
open Go.VM
instance (x y : Bx) : Decidable (x.over y) := by unfold Bx.over; infer_instance
/-- the first box that meets one -/
def fbx (b : Bx) : List Bx → Option Bx
  | [] => none
  | x :: xs => if b.f = x.f ∧ b.over x then some (b.meet x) else fbx b xs
theorem fbx_drop {b : Bx} {xs : List Bx} {i : Nat} {x : Bx} (h : xs[i]? = some x) : fbx b (xs.drop i) = if b.f = x.f ∧ b.over x then some (b.meet x) else fbx b (xs.drop (i + 1)) := by
  obtain ⟨h1, h2⟩ := List.getElem?_eq_some_iff.1 h
  rw [List.drop_eq_getElem_cons h1, h2, fbx]
/-- the first rule with a template and a box that meets one -/
def nar (b : Bx) (t : ByteArray) : Nat → List Ru → Option (Nat × Bx)
  | _, [] => none
  | i, r :: rs => if r.act = 2 ∧ (r.tm.toList == t.toList) = true then (match fbx b r.bs with | some m => some (i, m) | none => nar b t (i + 1) rs) else nar b t (i + 1) rs
theorem nar_drop {b : Bx} {t : ByteArray} {rs : List Ru} {i : Nat} {r : Ru} (h : rs[i]? = some r) :
    nar b t i (rs.drop i) = if r.act = 2 ∧ (r.tm.toList == t.toList) = true then (match fbx b r.bs with | some m => some (i, m) | none => nar b t (i + 1) (rs.drop (i + 1))) else nar b t (i + 1) (rs.drop (i + 1)) := by
  obtain ⟨h1, h2⟩ := List.getElem?_eq_some_iff.1 h
  rw [List.drop_eq_getElem_cons h1, h2, nar]
def narV (o : Option (Nat × Bx)) : V := match o with
  | some (i, m) => .tup [.d (I i), m.ag, .d (B true)]
  | none => .tup [.d (I 0), Bx.zero.ag, .d (B false)]
theorem e48 (rs : List Ru) (b : Bx) (t : ByteArray) (hl : rs.length < 1000) (hr : ∀ r ∈ rs, r.ok) (hb : b.ok) :
    CV VP 97 [.d (.sl (rs.map Ru.row)), b.ag, .d (.lit (.string t))] [] = some ⟨narV (nar b.swap t 0 rs), [], [], 0⟩ := by
  have hsw := e65 b
  have hbs := Bx.swap_ok hb
  generalize b.swap = c at *
  refine CV_run (vf := vf97) rfl rfl ?_
  rw [vf97_start]
  (repeat (first
    | refine RX_seq ?_
    | refine RX_block ?_
    | ((first | refine RX_reg ?_ | refine RX_cond' ?_ | refine RX_draw0 ?_ | refine RX_draw rfl ?_ | refine RX_skip ?_ | refine RX_exit ?_ | refine RX_ret ?_); try (simp only [go_sem, Int.reduceToNat, Nat.reducePow, Int.reduceEq, Int.reduceNe, Int.reduceLT, Int.reduceLE, Nat.reduceAdd, Nat.reduceLeDiff, ↓reduceIte, Nat.reduceLT, Nat.reduceMul, Nat.reduceSub, reduceCtorEq, frzLoc, rowCells, vAppM, beq_iff_eq, bne_iff_ne, bne_self_eq_false, beq_self_eq_true, beq_true, beq_false, I, B, w, vf97_res, vf97_keep, List.length_map, hsw]))))
  refine RX_loopN (n := 2) rfl ?_
  refine RL_ind (fun m st => ∃ (i : Nat), i + m = rs.length ∧ nar c t i (rs.drop i) = nar c t 0 rs ∧
    At vf97K0 2 st ((.any :: .any :: .d (.lit (.string t)) :: .any :: .ptr 0 0 :: .any :: .any :: .ptr 1 0 :: .any :: .any :: .any :: .any :: .any :: .any :: .any :: .any :: .any :: .d (.sl (rs.map Ru.row)) :: .d (I (rs.length : Nat)) :: .d (I (i : Nat)) :: .any :: .any :: .any :: .any :: .any :: .any :: .any :: .any :: .any :: .any :: .any :: .any :: .any :: .any :: .any :: .any :: .any :: .any :: .any :: .any :: .any :: .any :: .any :: .any :: .any :: .any :: .any :: .any :: .any :: .any :: .any :: .any :: [])) [c.row.map .d, Bx.zero.row.map .d] [] 0 0) ?_ rs.length _ ⟨0, Nat.zero_add _, rfl, rfl, rfl, rfl, rfl, rfl, rfl⟩
  rintro m st ⟨i, hi, hf, hat⟩ ih
  refine RL_at hat rfl rfl (vf97L0_go ?_)
  cases m with
  | zero =>
    have h1 : ¬ i < rs.length := by omega
    rw [List.drop_eq_nil_of_le (by omega)] at hf
    rw [← hf]
    simp only [nar, narV]
    (repeat (first
    | refine RX_seq ?_
    | refine RX_block ?_
    | ((first | refine RX_reg ?_ | refine RX_cond' ?_ | refine RX_draw0 ?_ | refine RX_draw rfl ?_ | refine RX_skip ?_ | refine RX_exit ?_ | refine RX_ret ?_); try (simp only [go_sem, Int.reduceToNat, Nat.reducePow, Int.reduceEq, Int.reduceNe, Int.reduceLT, Int.reduceLE, Nat.reduceAdd, Nat.reduceLeDiff, ↓reduceIte, Nat.reduceLT, Nat.reduceMul, Nat.reduceSub, reduceCtorEq, frzLoc, rowCells, vAppM, beq_iff_eq, bne_iff_ne, bne_self_eq_false, beq_self_eq_true, beq_true, beq_false, I, B, w, vf97_res, vf97_keep, h1]))))
  | succ m =>
    have h1 : i < rs.length := by omega
    obtain ⟨r, hri⟩ : ∃ r, rs[i]? = some r := ⟨_, List.getElem?_eq_getElem h1⟩
    rw [nar_drop hri] at hf
    have hrow : (rs.map Ru.row)[i]? = some r.row := by rw [List.getElem?_map, hri]; rfl
    have hrok := hr r (List.mem_of_getElem? hri)
    have hwi := w_nat (i := i) (by omega)
    have next := fun (hp : nar c t (i + 1) (rs.drop (i + 1)) = nar c t 0 rs) st hat => ih m st (Nat.lt_succ_self m) ⟨i + 1, by omega, hp, hat⟩
    clear ih
    by_cases c1 : r.act = 2
    · cases c2 : r.tm.toList == t.toList with
      | true =>
        rw [if_pos ⟨c1, c2⟩] at hf
        (repeat (first
    | refine RX_seq ?_
    | refine RX_block ?_
    | ((first | refine RX_reg ?_ | refine RX_cond' ?_ | refine RX_draw0 ?_ | refine RX_draw rfl ?_ | refine RX_skip ?_ | refine RX_exit ?_ | refine RX_ret ?_); try (simp only [go_sem, Int.reduceToNat, Nat.reducePow, Int.reduceEq, Int.reduceNe, Int.reduceLT, Int.reduceLE, Nat.reduceAdd, Nat.reduceLeDiff, ↓reduceIte, Nat.reduceLT, Nat.reduceMul, Nat.reduceSub, reduceCtorEq, frzLoc, rowCells, vAppM, beq_iff_eq, bne_iff_ne, bne_self_eq_false, beq_self_eq_true, beq_true, beq_false, I, B, w, vf97_res, vf97_keep, h1, hrow, c1, c2, List.length_map, hwi, vStr]))))
        refine RX_loopN (n := 3) rfl ?_
        have hres : narV (nar c t 0 rs) = narV (match fbx c r.bs with | some m => some (i, m) | none => nar c t 0 rs) := by
          rw [← hf]
          cases fbx c r.bs <;> rfl
        rw [hres]
        refine RL_ind (fun q st => ∃ (j : Nat), j + q = r.bs.length ∧ fbx c (r.bs.drop j) = fbx c r.bs ∧
          At vf97K1 3 st ((.any :: .any :: .d (.lit (.string t)) :: .any :: .ptr 0 0 :: .any :: .any :: .ptr 1 0 :: .any :: .d (I (i : Nat)) :: .any :: .any :: .any :: .any :: .any :: .any :: .any :: .d (.sl (rs.map Ru.row)) :: .d (I (rs.length : Nat)) :: .d (I (i : Nat)) :: .any :: .any :: .any :: .any :: .any :: .any :: .any :: .any :: .any :: .any :: .any :: .any :: .any :: .any :: .d (.sl (r.bs.map Bx.row)) :: .d (I (r.bs.length : Nat)) :: .d (I (j : Nat)) :: .any :: .any :: .any :: .any :: .any :: .any :: .any :: .any :: .any :: .any :: .any :: .any :: .any :: .any :: .any :: []))
            [c.row.map .d, Bx.zero.row.map .d, [.d (I 2), .d (.lit (.string r.tm)), .d (.sl (r.bs.map Bx.row))]] [] 0 0) ?_ r.bs.length _ ⟨0, Nat.zero_add _, rfl, rfl, rfl, rfl, rfl, rfl, rfl⟩
        rintro q st ⟨j, hj, hg, hat2⟩ ih2
        refine RL_at hat2 rfl rfl (vf97L1_go ?_)
        cases q with
        | zero =>
          have g1 : ¬ j < r.bs.length := by omega
          rw [List.drop_eq_nil_of_le (by omega), fbx] at hg
          rw [← hg] at hf ⊢
          simp only at hf ⊢
          (repeat (first
    | refine RX_seq ?_
    | refine RX_block ?_
    | ((first | refine RX_reg ?_ | refine RX_cond' ?_ | refine RX_draw0 ?_ | refine RX_draw rfl ?_ | refine RX_skip ?_ | refine RX_exit ?_ | refine RX_ret ?_); try (simp only [go_sem, Int.reduceToNat, Nat.reducePow, Int.reduceEq, Int.reduceNe, Int.reduceLT, Int.reduceLE, Nat.reduceAdd, Nat.reduceLeDiff, ↓reduceIte, Nat.reduceLT, Nat.reduceMul, Nat.reduceSub, reduceCtorEq, frzLoc, rowCells, vAppM, beq_iff_eq, bne_iff_ne, bne_self_eq_false, beq_self_eq_true, beq_true, beq_false, I, B, w, vf97_res, vf97_keep, g1, hwi, List.length_map]))))
          exact next hf _ ⟨rfl, rfl, rfl, rfl, rfl, rfl⟩
        | succ q =>
          have g1 : j < r.bs.length := by omega
          obtain ⟨x, hxj⟩ : ∃ x, r.bs[j]? = some x := ⟨_, List.getElem?_eq_getElem g1⟩
          rw [fbx_drop hxj] at hg
          have hxrow : (r.bs.map Bx.row)[j]? = some x.row := by rw [List.getElem?_map, hxj]; rfl
          have h92 := e92 c x hbs (hrok.bs x (List.mem_of_getElem? hxj))
          have hrl := hrok.len
          have hwj := w_nat (i := j) (by omega)
          unfold Bx.meetR at h92
          by_cases d1 : c.f = x.f ∧ c.over x
          · rw [if_pos d1] at h92 hg
            rw [← hg]
            simp only [narV]
            (repeat (first
    | refine RX_seq ?_
    | refine RX_block ?_
    | ((first | refine RX_reg ?_ | refine RX_cond' ?_ | refine RX_draw0 ?_ | refine RX_draw rfl ?_ | refine RX_skip ?_ | refine RX_exit ?_ | refine RX_ret ?_); try (simp only [go_sem, Int.reduceToNat, Nat.reducePow, Int.reduceEq, Int.reduceNe, Int.reduceLT, Int.reduceLE, Nat.reduceAdd, Nat.reduceLeDiff, ↓reduceIte, Nat.reduceLT, Nat.reduceMul, Nat.reduceSub, reduceCtorEq, frzLoc, rowCells, vAppM, beq_iff_eq, bne_iff_ne, bne_self_eq_false, beq_self_eq_true, beq_true, beq_false, I, B, w, vf97_res, vf97_keep, g1, hxrow, hwj, h92, List.length_map]))))
          · rw [if_neg d1] at h92 hg
            (repeat (first
    | refine RX_seq ?_
    | refine RX_block ?_
    | ((first | refine RX_reg ?_ | refine RX_cond' ?_ | refine RX_draw0 ?_ | refine RX_draw rfl ?_ | refine RX_skip ?_ | refine RX_exit ?_ | refine RX_ret ?_); try (simp only [go_sem, Int.reduceToNat, Nat.reducePow, Int.reduceEq, Int.reduceNe, Int.reduceLT, Int.reduceLE, Nat.reduceAdd, Nat.reduceLeDiff, ↓reduceIte, Nat.reduceLT, Nat.reduceMul, Nat.reduceSub, reduceCtorEq, frzLoc, rowCells, vAppM, beq_iff_eq, bne_iff_ne, bne_self_eq_false, beq_self_eq_true, beq_true, beq_false, I, B, w, vf97_res, vf97_keep, g1, hxrow, hwj, h92, List.length_map]))))
            exact ih2 q _ (Nat.lt_succ_self q) ⟨j + 1, by omega, hg, rfl, rfl, rfl, rfl, rfl, rfl⟩
      | false =>
        rw [if_neg (by rintro ⟨_, h⟩; rw [c2] at h; cases h)] at hf
        (repeat (first
    | refine RX_seq ?_
    | refine RX_block ?_
    | ((first | refine RX_reg ?_ | refine RX_cond' ?_ | refine RX_draw0 ?_ | refine RX_draw rfl ?_ | refine RX_skip ?_ | refine RX_exit ?_ | refine RX_ret ?_); try (simp only [go_sem, Int.reduceToNat, Nat.reducePow, Int.reduceEq, Int.reduceNe, Int.reduceLT, Int.reduceLE, Nat.reduceAdd, Nat.reduceLeDiff, ↓reduceIte, Nat.reduceLT, Nat.reduceMul, Nat.reduceSub, reduceCtorEq, frzLoc, rowCells, vAppM, beq_iff_eq, bne_iff_ne, bne_self_eq_false, beq_self_eq_true, beq_true, beq_false, I, B, w, vf97_res, vf97_keep, h1, hrow, c1, c2, List.length_map, hwi, vStr]))))
        exact next hf _ ⟨rfl, rfl, rfl, rfl, rfl, rfl⟩
    · rw [if_neg (fun h => c1 h.1)] at hf
      have c1n : (r.act != 2) = true := by simpa using c1
      (repeat (first
    | refine RX_seq ?_
    | refine RX_block ?_
    | ((first | refine RX_reg ?_ | refine RX_cond' ?_ | refine RX_draw0 ?_ | refine RX_draw rfl ?_ | refine RX_skip ?_ | refine RX_exit ?_ | refine RX_ret ?_); try (simp only [go_sem, Int.reduceToNat, Nat.reducePow, Int.reduceEq, Int.reduceNe, Int.reduceLT, Int.reduceLE, Nat.reduceAdd, Nat.reduceLeDiff, ↓reduceIte, Nat.reduceLT, Nat.reduceMul, Nat.reduceSub, reduceCtorEq, frzLoc, rowCells, vAppM, beq_iff_eq, bne_iff_ne, bne_self_eq_false, beq_self_eq_true, beq_true, beq_false, I, B, w, vf97_res, vf97_keep, h1, hrow, c1n, List.length_map, hwi, vStr]))))
      exact next hf _ ⟨rfl, rfl, rfl, rfl, rfl, rfl⟩
end Go.Proofs.Ytciaehhaglaafaa

namespace Go.Proofs.Ytciaehhaglaafaa
open Go.VM
end Go.Proofs.Ytciaehhaglaafaa

set_option maxRecDepth 100000
namespace Go.Proofs.Ytciaehhaglaafaa
open Go.VM
abbrev nR (n : Int) : List D := [I 1, I n, .sl []]
abbrev goldS : D := .lit (.string ⟨#[103, 111, 108, 100]⟩)
def A37 : Orc := fun f _ _ => match Nat.beq f 94 with
  | true => some ⟨.d (I 0), [], [], 0⟩
  | false => none
theorem u64_in {n : Int} (h1 : 0 ≤ n) (h2 : n ≤ 18446744073709551615) : IntKind.u64.wrap n = n := IntWalk.u64_in n ⟨h1, h2⟩
theorem fam_in {x : Bx} (h : x.ok) : 0 ≤ x.h ∧ x.h ≤ 2305843009213693952 := by rcases h.fam with ⟨_, h⟩ | ⟨_, h⟩ <;> omega
theorem k37g (f h a0 b0 a1 b1 p0 p1 l0 l1 s0 s1 : Int) (h94 : CV VP 94 [.agg [.d (I f), .d (U (IntKind.u64.wrap h)), .d (U (IntKind.u64.wrap a0)), .d (I f), .d (U (IntKind.u64.wrap h)), .d (U (IntKind.u64.wrap b0)), .d (I f), .d (U (IntKind.u64.wrap h)), .d (U (IntKind.u64.wrap a1)), .d (I f), .d (U (IntKind.u64.wrap h)), .d (U (IntKind.u64.wrap b1)), .d (I p0), .d (I p1), .d (I l0), .d (I l1), .d (I s0), .d (I s1)]] [] = some ⟨.d (I 0), [], [], 0⟩) :
    CV VP 37 [.d (.sl [nR f, nR h, nR a0, nR f, nR h, nR b0, nR f, nR h, nR a1, nR f, nR h, nR b1, nR p0, nR p1, nR l0, nR l1, nR s0, nR s1, nR 103, nR 111, nR 108, nR 100])] [] = some ⟨.tup [.agg [.d (I f), .d (U (IntKind.u64.wrap h)), .d (U (IntKind.u64.wrap a0)), .d (I f), .d (U (IntKind.u64.wrap h)), .d (U (IntKind.u64.wrap b0)), .d (I f), .d (U (IntKind.u64.wrap h)), .d (U (IntKind.u64.wrap a1)), .d (I f), .d (U (IntKind.u64.wrap h)), .d (U (IntKind.u64.wrap b1)), .d (I p0), .d (I p1), .d (I l0), .d (I l1), .d (I s0), .d (I s1)], .d (.lit (.string ⟨#[103, 111, 108, 100]⟩)), .d (B true)], [], [], 0⟩ :=
  CV_R (cA_ok vft_ok A37 400 60) 400 [(31, true), (15, true), (32, true), (15, true), (32, true), (15, true), (32, true), (15, true)] [] rfl rfl (ob := [(prB (CV VP 94 [.agg [.d (I f), .d (U (IntKind.u64.wrap h)), .d (U (IntKind.u64.wrap a0)), .d (I f), .d (U (IntKind.u64.wrap h)), .d (U (IntKind.u64.wrap b0)), .d (I f), .d (U (IntKind.u64.wrap h)), .d (U (IntKind.u64.wrap a1)), .d (I f), .d (U (IntKind.u64.wrap h)), .d (U (IntKind.u64.wrap b1)), .d (I p0), .d (I p1), .d (I l0), .d (I l1), .d (I s0), .d (I s1)]] [] = some ⟨.d (I 0), [], [], 0⟩), true)]) (by kernel_rfl) (.cons (prB_of h94) .nil)
theorem h37g (x : Bx) (ho : x.ok) (hf : x.fine) : CV VP 37 [.d (.sl [nR x.f, nR x.h, nR x.a0, nR x.f, nR x.h, nR x.b0, nR x.f, nR x.h, nR x.a1, nR x.f, nR x.h, nR x.b1, nR x.p0, nR x.p1, nR x.l0, nR x.l1, nR x.r0, nR x.r1, nR 103, nR 111, nR 108, nR 100])] [] = some ⟨.tup [x.ag, .d (.lit (.string ⟨#[103, 111, 108, 100]⟩)), .d (B true)], [], [], 0⟩ := by
  obtain ⟨f1, f2⟩ := fam_in ho
  have h := k37g x.f x.h x.a0 x.b0 x.a1 x.b1 x.p0 x.p1 x.l0 x.l1 x.r0 x.r1
  have g0 := hf.a0
  have g1 := hf.b0
  have g2 := hf.a1
  have g3 := hf.b1
  have g4 := hf.ab0
  have g5 := hf.ab1
  rw [u64_in f1 (by omega), u64_in (n := x.a0) (by omega) (by omega), u64_in (n := x.b0) (by omega) (by omega), u64_in (n := x.a1) (by omega) (by omega), u64_in (n := x.b1) (by omega) (by omega)] at h
  refine h ?_
  have h88 := e88 x.f x.h x.a0 x.f x.h x.b0 x.f x.h x.a1 x.f x.h x.b1 x.p0 x.p1 x.l0 x.l1 x.r0 x.r1
  rw [chk_fine ho hf] at h88
  exact h88
theorem k37s (f h a0 b0 a1 b1 p0 p1 l0 l1 s0 s1 : Int) (h94 : CV VP 94 [.agg [.d (I f), .d (U (IntKind.u64.wrap h)), .d (U (IntKind.u64.wrap a0)), .d (I f), .d (U (IntKind.u64.wrap h)), .d (U (IntKind.u64.wrap b0)), .d (I f), .d (U (IntKind.u64.wrap h)), .d (U (IntKind.u64.wrap a1)), .d (I f), .d (U (IntKind.u64.wrap h)), .d (U (IntKind.u64.wrap b1)), .d (I p0), .d (I p1), .d (I l0), .d (I l1), .d (I s0), .d (I s1)]] [] = some ⟨.d (I 0), [], [], 0⟩) :
    CV VP 37 [.d (.sl [nR f, nR h, nR a0, nR f, nR h, nR b0, nR f, nR h, nR a1, nR f, nR h, nR b1, nR p0, nR p1, nR l0, nR l1, nR s0, nR s1, nR 115, nR 105, nR 108, nR 118, nR 101, nR 114])] [] = some ⟨.tup [.agg [.d (I f), .d (U (IntKind.u64.wrap h)), .d (U (IntKind.u64.wrap a0)), .d (I f), .d (U (IntKind.u64.wrap h)), .d (U (IntKind.u64.wrap b0)), .d (I f), .d (U (IntKind.u64.wrap h)), .d (U (IntKind.u64.wrap a1)), .d (I f), .d (U (IntKind.u64.wrap h)), .d (U (IntKind.u64.wrap b1)), .d (I p0), .d (I p1), .d (I l0), .d (I l1), .d (I s0), .d (I s1)], .d (.lit (.string ⟨#[115, 105, 108, 118, 101, 114]⟩)), .d (B true)], [], [], 0⟩ :=
  CV_R (cA_ok vft_ok A37 400 60) 400 [(31, true), (15, true), (32, true), (15, true), (32, true), (15, true), (32, true), (15, true)] [] rfl rfl (ob := [(prB (CV VP 94 [.agg [.d (I f), .d (U (IntKind.u64.wrap h)), .d (U (IntKind.u64.wrap a0)), .d (I f), .d (U (IntKind.u64.wrap h)), .d (U (IntKind.u64.wrap b0)), .d (I f), .d (U (IntKind.u64.wrap h)), .d (U (IntKind.u64.wrap a1)), .d (I f), .d (U (IntKind.u64.wrap h)), .d (U (IntKind.u64.wrap b1)), .d (I p0), .d (I p1), .d (I l0), .d (I l1), .d (I s0), .d (I s1)]] [] = some ⟨.d (I 0), [], [], 0⟩), true)]) (by kernel_rfl) (.cons (prB_of h94) .nil)
theorem h37s (x : Bx) (ho : x.ok) (hf : x.fine) : CV VP 37 [.d (.sl [nR x.f, nR x.h, nR x.a0, nR x.f, nR x.h, nR x.b0, nR x.f, nR x.h, nR x.a1, nR x.f, nR x.h, nR x.b1, nR x.p0, nR x.p1, nR x.l0, nR x.l1, nR x.r0, nR x.r1, nR 115, nR 105, nR 108, nR 118, nR 101, nR 114])] [] = some ⟨.tup [x.ag, .d (.lit (.string ⟨#[115, 105, 108, 118, 101, 114]⟩)), .d (B true)], [], [], 0⟩ := by
  obtain ⟨f1, f2⟩ := fam_in ho
  have h := k37s x.f x.h x.a0 x.b0 x.a1 x.b1 x.p0 x.p1 x.l0 x.l1 x.r0 x.r1
  have g0 := hf.a0
  have g1 := hf.b0
  have g2 := hf.a1
  have g3 := hf.b1
  have g4 := hf.ab0
  have g5 := hf.ab1
  rw [u64_in f1 (by omega), u64_in (n := x.a0) (by omega) (by omega), u64_in (n := x.b0) (by omega) (by omega), u64_in (n := x.a1) (by omega) (by omega), u64_in (n := x.b1) (by omega) (by omega)] at h
  refine h ?_
  have h88 := e88 x.f x.h x.a0 x.f x.h x.b0 x.f x.h x.a1 x.f x.h x.b1 x.p0 x.p1 x.l0 x.l1 x.r0 x.r1
  rw [chk_fine ho hf] at h88
  exact h88
def bytsR : List UInt8 → List (List D)
  | [] => []
  | b :: bs => nR (Int.ofNat b.toNat) :: bytsR bs
def bxP (f0 h0 a0 f1 h1 a1 f2 h2 a2 f3 h3 a3 p0 p1 l0 l1 r0 r1 : Int) (t : ByteArray) : V := .agg [.d (I 3), .d (I 0), .d (.sl (nR 11 :: nR f0 :: nR h0 :: nR a0 :: nR f1 :: nR h1 :: nR a1 :: nR f2 :: nR h2 :: nR a2 :: nR f3 :: nR h3 :: nR a3 :: nR p0 :: nR p1 :: nR l0 :: nR l1 :: nR r0 :: nR r1 :: bytsR t.data.toList))]
def Bx.beqB (m x : Bx) : Bool := m.f == x.f && (m.h == x.h && (m.a0 == x.a0 && (m.f == x.f && (m.h == x.h && (m.b0 == x.b0 && (m.f == x.f && (m.h == x.h && (m.a1 == x.a1 && (m.f == x.f && (m.h == x.h && (m.b1 == x.b1 && (m.p0 == x.p0 && (m.p1 == x.p1 && (m.l0 == x.l0 && (m.l1 == x.l1 && (m.r0 == x.r0 && m.r1 == x.r1))))))))))))))))
theorem Bx.beqB_iff {m x : Bx} : m.beqB x = true ↔ m = x := by
  obtain ⟨a1, a2, a3, a4, a5, a6, a7, a8, a9, a10, a11, a12⟩ := m
  obtain ⟨b1, b2, b3, b4, b5, b6, b7, b8, b9, b10, b11, b12⟩ := x
  simp only [Bx.beqB, Bool.and_eq_true, beq_iff_eq, Bx.mk.injEq]
  constructor
  · rintro ⟨h1, h2, h3, _, _, h4, _, _, h5, _, _, h6, h7, h8, h9, h10, h11, h12⟩
    exact ⟨h1, h2, h3, h4, h5, h6, h7, h8, h9, h10, h11, h12⟩
  · rintro ⟨h1, h2, h3, h4, h5, h6, h7, h8, h9, h10, h11, h12⟩
    exact ⟨h1, h2, h3, h1, h2, h4, h1, h2, h5, h1, h2, h6, h7, h8, h9, h10, h11, h12⟩
set_option maxHeartbeats 4000000 in
theorem e100t (x y : Bx) (hx : x.ok) (hy : y.ok) (hw : x.f = y.f ∧ x.over y) : CV VP 100 [x.ag, y.ag] [] = some ⟨.d (B ((x.meet y).beqB x)), [], [], 0⟩ := by
  have h92 := e92 x y hx hy
  unfold Bx.meetR at h92
  rw [if_pos hw] at h92
  unfold Bx.beqB
  refine CV_run (vf := vf100) rfl rfl ?_
  rw [vf100_start]
  (repeat (first
    | refine RX_seq ?_
    | refine RX_block ?_
    | ((first | refine RX_reg ?_ | refine RX_cond' ?_ | refine RX_draw0 ?_ | refine RX_draw rfl ?_ | refine RX_skip ?_ | refine RX_exit ?_ | refine RX_ret ?_); try (simp only [go_sem, Int.reduceToNat, Nat.reducePow, Int.reduceEq, Int.reduceNe, Int.reduceLT, Int.reduceLE, Nat.reduceAdd, Nat.reduceLeDiff, ↓reduceIte, Nat.reduceLT, Nat.reduceMul, Nat.reduceSub, reduceCtorEq, frzLoc, rowCells, vAppM, beq_iff_eq, bne_iff_ne, bne_self_eq_false, beq_self_eq_true, beq_true, beq_false, I, B, w, vf100_res, vf100_keep, h92, vCellsEq, vCellEq]))))
theorem e100f (x y : Bx) (hx : x.ok) (hy : y.ok) (hw : ¬ (x.f = y.f ∧ x.over y)) : CV VP 100 [x.ag, y.ag] [] = some ⟨.d (B false), [], [], 0⟩ := by
  have h92 := e92 x y hx hy
  unfold Bx.meetR at h92
  rw [if_neg hw] at h92
  refine CV_run (vf := vf100) rfl rfl ?_
  rw [vf100_start]
  (repeat (first
    | refine RX_seq ?_
    | refine RX_block ?_
    | ((first | refine RX_reg ?_ | refine RX_cond' ?_ | refine RX_draw0 ?_ | refine RX_draw rfl ?_ | refine RX_skip ?_ | refine RX_exit ?_ | refine RX_ret ?_); try (simp only [go_sem, Int.reduceToNat, Nat.reducePow, Int.reduceEq, Int.reduceNe, Int.reduceLT, Int.reduceLE, Nat.reduceAdd, Nat.reduceLeDiff, ↓reduceIte, Nat.reduceLT, Nat.reduceMul, Nat.reduceSub, reduceCtorEq, frzLoc, rowCells, vAppM, beq_iff_eq, bne_iff_ne, bne_self_eq_false, beq_self_eq_true, beq_true, beq_false, I, B, w, vf100_res, vf100_keep, h92, vCellsEq, vCellEq]))))
theorem h100 (x y : Bx) (hx : x.ok) (hy : y.ok) : CV VP 100 [x.ag, y.ag] [] = some ⟨.d (B (ansB VP 100 [x.ag, y.ag])), [], [], 0⟩ := by
  refine ansB_spec ?_
  by_cases hw : x.f = y.f ∧ x.over y
  · exact ⟨_, e100t x y hx hy hw⟩
  · exact ⟨_, e100f x y hx hy hw⟩
theorem ins_iff (x y : Bx) (hx : x.ok) (hy : y.ok) : ansB VP 100 [x.ag, y.ag] = true ↔ (x.f = y.f ∧ x.over y) ∧ x.meet y = x := by
  by_cases hw : x.f = y.f ∧ x.over y
  · rw [ansB_eq (e100t x y hx hy hw), Bx.beqB_iff]
    exact ⟨fun h => ⟨hw, h⟩, fun h => h.2⟩
  · rw [ansB_eq (e100f x y hx hy hw)]
    exact ⟨fun h => absurd h (by decide), fun h => absurd h.1 hw⟩
end Go.Proofs.Ytciaehhaglaafaa

set_option maxRecDepth 100000
namespace Go.Proofs.Ytciaehhaglaafaa
open Go.VM
theorem Bx.swap_both {x : Bx} (ho : x.ok) (hf : x.fine) : x.swap.ok ∧ x.swap.fine :=
  ⟨⟨ho.fam, ho.p0, ho.p1, ho.r0, ho.r1, ho.l0, ho.l1⟩, ⟨hf.a1, hf.b1, hf.a0, hf.b0, hf.ab1, hf.ab0, hf.p0, hf.p01, hf.p1, hf.r01, hf.l01⟩⟩
theorem e40a : CV VP 40 [] [] = some ⟨.d (B true), [], [], 0⟩ := CV_F0 vft_ok 400 60 (by kernel_rfl)
end Go.Proofs.Ytciaehhaglaafaa

set_option maxRecDepth 100000
namespace Go.Proofs.Ytciaehhaglaafaa
open Go.VM
theorem k32g (f h a0 b0 a1 b1 p0 p1 l0 l1 s0 s1 : Int) : CV VP 32 [.agg [.d (I f), .d (U h), .d (U a0), .d (I f), .d (U h), .d (U b0), .d (I f), .d (U h), .d (U a1), .d (I f), .d (U h), .d (U b1), .d (I p0), .d (I p1), .d (I l0), .d (I l1), .d (I s0), .d (I s1)], .d goldS] [] =
    some ⟨.agg [.d (I 3), .d (I 0), .d (.sl [nR 11, nR f, nR (wF h), nR (wF a0), nR f, nR (wF h), nR (wF b0), nR f, nR (wF h), nR (wF a1), nR f, nR (wF h), nR (wF b1), nR p0, nR p1, nR l0, nR l1, nR s0, nR s1, nR 103, nR 111, nR 108, nR 100])], [], [], 0⟩ :=
  CV_R (C := cA VP vft.get noNat 400 60) (cA_ok vft_ok noNat 400 60) 400 [(1, true), (0, true), (2, true), (0, true), (2, true), (0, true), (2, true), (0, true)] [] rfl rfl (ob := []) (by kernel_rfl) .nil
theorem h32g (x : Bx) (ho : x.ok) (hf : x.fine) : CV VP 32 [x.ag, .d goldS] [] = some ⟨.agg [.d (I 3), .d (I 0), .d (.sl [nR 11, nR x.f, nR x.h, nR x.a0, nR x.f, nR x.h, nR x.b0, nR x.f, nR x.h, nR x.a1, nR x.f, nR x.h, nR x.b1, nR x.p0, nR x.p1, nR x.l0, nR x.l1, nR x.r0, nR x.r1, nR 103, nR 111, nR 108, nR 100])], [], [], 0⟩ := by
  obtain ⟨f1, f2⟩ := fam_in ho
  have g0 := hf.a0
  have g1 := hf.b0
  have g2 := hf.a1
  have g3 := hf.b1
  have g4 := hf.ab0
  have g5 := hf.ab1
  have h := k32g x.f x.h x.a0 x.b0 x.a1 x.b1 x.p0 x.p1 x.l0 x.l1 x.r0 x.r1
  rw [wF_in (n := x.h) (by omega) (by omega), wF_in (n := x.a0) (by omega) (by omega), wF_in (n := x.b0) (by omega) (by omega), wF_in (n := x.a1) (by omega) (by omega), wF_in (n := x.b1) (by omega) (by omega)] at h
  exact h
theorem h111 {c0 c1 c2 c3 c5 c6 c7 c8 c9 c10 c11 c12 c13 c14 c15 c16 c17 c18 : D} {rows : List (List D)} {n : Int} {t : ByteArray} {a b : D} (i : Nat) (hn : n = (i : Int)) (h : rows[i]? = some [a, .lit (.string t), b]) :
    CV VP 111 [.agg [.d c0, .d c1, .d c2, .d c3, .d (.sl rows), .d c5, .d c6, .d c7, .d c8, .d c9, .d c10, .d c11, .d c12, .d c13, .d c14, .d c15, .d c16, .d c17, .d c18], .d (I n)] [] = some ⟨.d (.lit (.string t)), [], [], 0⟩ := by
  subst hn
  have hl := (List.getElem?_eq_some_iff.1 h).1
  have h0 : ¬ ((i : Int) < 0) := by omega
  have h1 : ¬ ((rows.length : Int) ≤ (i : Int)) := by omega
  refine CV_run (vf := vf111) rfl rfl ?_
  rw [vf111_start]
  (repeat (first
    | refine RX_seq ?_
    | refine RX_block ?_
    | ((first | refine RX_reg ?_ | refine RX_cond' ?_ | refine RX_draw0 ?_ | refine RX_draw rfl ?_ | refine RX_skip ?_ | refine RX_exit ?_ | refine RX_ret ?_); try (simp only [go_sem, Int.reduceToNat, Nat.reducePow, Int.reduceEq, Int.reduceNe, Int.reduceLT, Int.reduceLE, Nat.reduceAdd, Nat.reduceLeDiff, ↓reduceIte, Nat.reduceLT, Nat.reduceMul, Nat.reduceSub, reduceCtorEq, frzLoc, rowCells, vAppM, beq_iff_eq, bne_iff_ne, bne_self_eq_false, beq_self_eq_true, beq_true, beq_false, I, B, w, vf111_res, vf111_keep, h0, h1, hl, h, ge_iff_le]))))
theorem tm_gold {r : Ru} (hf : r.fine) (h : (r.tm.toList == gold.toList) = true) : r.tm = gold := by
  rcases hf.act with ⟨_, h1 | h1⟩ | ⟨_, h1⟩
  · exact h1
  · rw [h1] at h; exact absurd h (by decide +kernel)
  · rw [h1] at h; exact absurd h (by decide +kernel)
theorem fbx_some {b m : Bx} : ∀ {xs : List Bx}, fbx b xs = some m → ∃ y ∈ xs, b.f = y.f ∧ b.over y ∧ m = b.meet y
  | [], h => by cases h
  | x :: xs, h => by
    rw [fbx] at h
    split at h
    · rename_i hc
      simp only [Option.some.injEq] at h
      exact ⟨x, List.mem_cons_self, hc.1, hc.2, h.symm⟩
    · obtain ⟨y, h1, h2⟩ := fbx_some h
      exact ⟨y, List.mem_cons_of_mem _ h1, h2⟩
theorem nar_some {b m : Bx} {t : ByteArray} {j : Nat} : ∀ {rs : List Ru} {i : Nat}, nar b t i rs = some (j, m) → ∃ r, i ≤ j ∧ rs[j - i]? = some r ∧ (r.tm.toList == t.toList) = true ∧ r.act = 2 ∧ fbx b r.bs = some m
  | [], i, h => by cases h
  | r :: rs, i, h => by
    rw [nar] at h
    split at h
    · rename_i hc
      split at h
      · rename_i m' hm
        simp only [Option.some.injEq, Prod.mk.injEq] at h
        obtain ⟨rfl, rfl⟩ := h
        exact ⟨r, Nat.le_refl _, by simp, hc.2, hc.1, hm⟩
      · obtain ⟨r', h1, h2, h3⟩ := nar_some h
        refine ⟨r', by omega, ?_, h3⟩
        rw [show j - i = (j - (i + 1)) + 1 by omega]
        simpa using h2
    · obtain ⟨r', h1, h2, h3⟩ := nar_some h
      refine ⟨r', by omega, ?_, h3⟩
      rw [show j - i = (j - (i + 1)) + 1 by omega]
      simpa using h2
theorem meet_fine {x y : Bx} (hx : x.ok) (fx : x.fine) (hy : y.ok) (fy : y.fine) (ho : x.over y) : (x.meet y).ok ∧ (x.meet y).fine := by
  have h1 := fx.a0
  have h2 := fx.b0
  have h3 := fx.a1
  have h4 := fx.b1
  have h5 := fy.a0
  have h6 := fy.b0
  have h7 := fy.a1
  have h8 := fy.b1
  have h9 := fx.p0
  have h10 := fx.p1
  have h11 := fy.p0
  have h12 := fy.p1
  unfold Bx.over at ho
  exact ⟨Bx.meet_ok hx hy, ⟨by simp only [Bx.meet]; omega, by simp only [Bx.meet]; omega, by simp only [Bx.meet]; omega, by simp only [Bx.meet]; omega, by simp only [Bx.meet]; omega, by simp only [Bx.meet]; omega, by simp only [Bx.meet]; omega, by simp only [Bx.meet]; omega, by simp only [Bx.meet]; omega, by simp only [Bx.meet]; omega, by simp only [Bx.meet]; omega⟩⟩
/-- what an offered box is narrowed to lies, turned round, in it -/
theorem ins_nar {x y : Bx} (hx : x.ok) (fx : x.fine) (hy : y.ok) (ho : x.swap.over y) : ansB VP 100 [(x.swap.meet y).swap.ag, x.ag] = true := by
  rw [ins_iff _ x (Bx.swap_ok (Bx.meet_ok (Bx.swap_ok hx) hy)) hx]
  have h1 := fx.ab0
  have h2 := fx.ab1
  have h3 := fx.p01
  have h4 := fx.l01
  have h5 := fx.r01
  obtain ⟨b1, b2, b3, b4, b5, b6, b7, b8, b9, b10, b11, b12⟩ := x
  obtain ⟨y1, y2, y3, y4, y5, y6, y7, y8, y9, y10, y11, y12⟩ := y
  simp only [Bx.over, Bx.swap, Bx.meet, Bx.mk.injEq, true_and] at *
  omega
end Go.Proofs.Ytciaehhaglaafaa

namespace Go.Proofs.Ytciaehhaglaafaa
open Go.VM
def Bx.eqb (m x : Bx) : Bool := m.f == x.f && (m.h == x.h && (m.a0 == x.a0 && (m.f == x.f && (m.h == x.h && (m.b0 == x.b0 && (m.f == x.f && (m.h == x.h && (m.a1 == x.a1 && (m.f == x.f && (m.h == x.h && (m.b1 == x.b1 && (m.p0 == x.p0 && (m.p1 == x.p1 && (m.l0 == x.l0 && (m.l1 == x.l1 && (m.r0 == x.r0 && (m.r1 == x.r1)))))))))))))))))
theorem Bx.eqb_refl (x : Bx) : x.eqb x = true := by simp [Bx.eqb]
theorem e50g (x y : Bx) (hx : x.ok) (hy : y.ok) : ∃ r : Bool, CV VP 113 [x.ag, y.ag] [] = some ⟨.d (B r), [], [], 0⟩ ∧ (x.within y → r = true) := by
  have h93 := e93 x y hx hy
  unfold Bx.meetR at h93
  by_cases h : x.f = y.f ∧ x.over y
  · rw [if_pos h] at h93
    generalize hm : x.meet y = m at h93
    refine ⟨m.eqb x, ?_, fun hw => ?_⟩
    · unfold Bx.eqb
      refine CV_run (vf := vf113) rfl rfl ?_
      rw [vf113_start]
      (repeat (first
    | refine RX_seq ?_
    | refine RX_block ?_
    | ((first | refine RX_reg ?_ | refine RX_cond' ?_ | refine RX_draw0 ?_ | refine RX_draw rfl ?_ | refine RX_skip ?_ | refine RX_exit ?_ | refine RX_ret ?_); try (simp only [go_sem, Int.reduceToNat, Nat.reducePow, Int.reduceEq, Int.reduceNe, Int.reduceLT, Int.reduceLE, Nat.reduceAdd, Nat.reduceLeDiff, ↓reduceIte, Nat.reduceLT, Nat.reduceMul, Nat.reduceSub, reduceCtorEq, frzLoc, rowCells, vAppM, beq_iff_eq, bne_iff_ne, bne_self_eq_false, beq_self_eq_true, beq_true, beq_false, I, B, w, vf113_res, vf113_keep, h93, vCellsEq, vCellEq]))))
    · obtain ⟨_, _, hw⟩ := hw
      rw [← hm, hw]; exact Bx.eqb_refl x
  · rw [if_neg h] at h93
    refine ⟨false, ?_, fun hw => absurd ⟨hw.1, hw.2.1⟩ h⟩
    refine CV_run (vf := vf113) rfl rfl ?_
    rw [vf113_start]
    (repeat (first
    | refine RX_seq ?_
    | refine RX_block ?_
    | ((first | refine RX_reg ?_ | refine RX_cond' ?_ | refine RX_draw0 ?_ | refine RX_draw rfl ?_ | refine RX_skip ?_ | refine RX_exit ?_ | refine RX_ret ?_); try (simp only [go_sem, Int.reduceToNat, Nat.reducePow, Int.reduceEq, Int.reduceNe, Int.reduceLT, Int.reduceLE, Nat.reduceAdd, Nat.reduceLeDiff, ↓reduceIte, Nat.reduceLT, Nat.reduceMul, Nat.reduceSub, reduceCtorEq, frzLoc, rowCells, vAppM, beq_iff_eq, bne_iff_ne, bne_self_eq_false, beq_self_eq_true, beq_true, beq_false, I, B, w, vf113_res, vf113_keep, h93]))))
theorem e52 (rs : List Ru) (i : Nat) (b : Bx) (r : Ru) (hi : rs[i]? = some r) (ha : r.act = 2) (hr : r.ok) (hb : b.ok) (hw : ∃ x ∈ r.bs, b.within x) :
    CV VP 52 [.d (.sl (rs.map Ru.row)), .d (I (i : Nat)), b.ag] [] = some ⟨.d (B true), [], [], 0⟩ := by
  have hlt := (List.getElem?_eq_some_iff.1 hi).1
  have hneg : ¬ ((i : Int) < 0) := by omega
  have hge : ¬ ((i : Int) ≥ (rs.length : Int)) := by omega
  have hrow : (rs.map Ru.row)[i]? = some r.row := by rw [List.getElem?_map, hi]; rfl
  refine CV_run (vf := vf52) rfl rfl ?_
  rw [vf52_start]
  (repeat (first
    | refine RX_seq ?_
    | refine RX_block ?_
    | ((first | refine RX_reg ?_ | refine RX_cond' ?_ | refine RX_draw0 ?_ | refine RX_draw rfl ?_ | refine RX_skip ?_ | refine RX_exit ?_ | refine RX_ret ?_); try (simp only [go_sem, Int.reduceToNat, Nat.reducePow, Int.reduceEq, Int.reduceNe, Int.reduceLT, Int.reduceLE, Nat.reduceAdd, Nat.reduceLeDiff, ↓reduceIte, Nat.reduceLT, Nat.reduceMul, Nat.reduceSub, reduceCtorEq, frzLoc, rowCells, vAppM, beq_iff_eq, bne_iff_ne, bne_self_eq_false, beq_self_eq_true, beq_true, beq_false, I, B, w, vf52_res, vf52_keep, List.length_map, hneg, hge, hlt, hrow, ha]))))
  refine RX_loopN (n := 1) rfl ?_
  refine RL_ind (fun q st => ∃ (j : Nat), j + q = r.bs.length ∧ (∃ x ∈ r.bs.drop j, b.within x) ∧
    At vf52K0 1 st ((.d (.sl (rs.map Ru.row)) :: .d (I (i : Nat)) :: .any :: .any :: .any :: .ptr 0 0 :: .any :: .d (I (j : Nat)) :: .any :: .any :: .any :: .any :: .any :: .any :: .any :: .any :: .any :: .any :: .any :: .any :: .any :: .any :: .any :: .any :: .any :: .any :: .any :: .any :: .any :: .any :: .any :: .any :: .any :: .any :: .any :: .any :: .any :: .any :: .any :: .any :: .any :: .any :: .any :: .any :: [])) [b.row.map .d] [] 0 0) ?_ r.bs.length _ ⟨0, Nat.zero_add _, hw, rfl, rfl, rfl, rfl, rfl, rfl⟩
  rintro q st ⟨j, hj, hg, hat2⟩ ih2
  refine RL_at hat2 rfl rfl (vf52L0_go ?_)
  cases q with
  | zero =>
    obtain ⟨x, hx, _⟩ := hg
    rw [List.drop_eq_nil_of_le (by omega)] at hx
    cases hx
  | succ q =>
    have g1 : j < r.bs.length := by omega
    obtain ⟨x, hxj⟩ : ∃ x, r.bs[j]? = some x := ⟨_, List.getElem?_eq_getElem g1⟩
    have hxrow : (r.bs.map Bx.row)[j]? = some x.row := by rw [List.getElem?_map, hxj]; rfl
    have hrl := hr.len
    have hwj := w_nat (i := j) (by omega)
    obtain ⟨res, h50, hres⟩ := e50g b x hb (hr.bs x (List.mem_of_getElem? hxj))
    cases res with
    | true =>
      (repeat (first
    | refine RX_seq ?_
    | refine RX_block ?_
    | ((first | refine RX_reg ?_ | refine RX_cond' ?_ | refine RX_draw0 ?_ | refine RX_draw rfl ?_ | refine RX_skip ?_ | refine RX_exit ?_ | refine RX_ret ?_); try (simp only [go_sem, Int.reduceToNat, Nat.reducePow, Int.reduceEq, Int.reduceNe, Int.reduceLT, Int.reduceLE, Nat.reduceAdd, Nat.reduceLeDiff, ↓reduceIte, Nat.reduceLT, Nat.reduceMul, Nat.reduceSub, reduceCtorEq, frzLoc, rowCells, vAppM, beq_iff_eq, bne_iff_ne, bne_self_eq_false, beq_self_eq_true, beq_true, beq_false, I, B, w, vf52_res, vf52_keep, List.length_map, hlt, hrow, ha, g1, hxrow, h50, hwj]))))
    | false =>
      (repeat (first
    | refine RX_seq ?_
    | refine RX_block ?_
    | ((first | refine RX_reg ?_ | refine RX_cond' ?_ | refine RX_draw0 ?_ | refine RX_draw rfl ?_ | refine RX_skip ?_ | refine RX_exit ?_ | refine RX_ret ?_); try (simp only [go_sem, Int.reduceToNat, Nat.reducePow, Int.reduceEq, Int.reduceNe, Int.reduceLT, Int.reduceLE, Nat.reduceAdd, Nat.reduceLeDiff, ↓reduceIte, Nat.reduceLT, Nat.reduceMul, Nat.reduceSub, reduceCtorEq, frzLoc, rowCells, vAppM, beq_iff_eq, bne_iff_ne, bne_self_eq_false, beq_self_eq_true, beq_true, beq_false, I, B, w, vf52_res, vf52_keep, List.length_map, hlt, hrow, ha, g1, hxrow, h50, hwj]))))
      refine ih2 q _ (Nat.lt_succ_self q) ⟨j + 1, by omega, ?_, rfl, rfl, rfl, rfl, rfl, rfl⟩
      obtain ⟨y, hy, hyw⟩ := hg
      rw [List.drop_eq_getElem_cons g1] at hy
      rcases List.mem_cons.1 hy with rfl | hy
      · rw [List.getElem?_eq_getElem g1] at hxj
        simp only [Option.some.injEq] at hxj; subst hxj
        exact absurd (hres hyw) (by decide)
      · exact ⟨y, hy, hyw⟩
end Go.Proofs.Ytciaehhaglaafaa

set_option maxRecDepth 100000
namespace Go.Proofs.Ytciaehhaglaafaa
open Go.VM
abbrev silvS : D := .lit (.string ⟨#[115, 105, 108, 118, 101, 114]⟩)
theorem k32s (f h a0 b0 a1 b1 p0 p1 l0 l1 s0 s1 : Int) : CV VP 32 [.agg [.d (I f), .d (U h), .d (U a0), .d (I f), .d (U h), .d (U b0), .d (I f), .d (U h), .d (U a1), .d (I f), .d (U h), .d (U b1), .d (I p0), .d (I p1), .d (I l0), .d (I l1), .d (I s0), .d (I s1)], .d silvS] [] =
    some ⟨.agg [.d (I 3), .d (I 0), .d (.sl [nR 11, nR f, nR (wF h), nR (wF a0), nR f, nR (wF h), nR (wF b0), nR f, nR (wF h), nR (wF a1), nR f, nR (wF h), nR (wF b1), nR p0, nR p1, nR l0, nR l1, nR s0, nR s1, nR 115, nR 105, nR 108, nR 118, nR 101, nR 114])], [], [], 0⟩ :=
  CV_R (C := cA VP vft.get noNat 400 60) (cA_ok vft_ok noNat 400 60) 400 [(1, true), (0, true), (2, true), (0, true), (2, true), (0, true), (2, true), (0, true)] [] rfl rfl (ob := []) (by kernel_rfl) .nil
theorem h32s (x : Bx) (ho : x.ok) (hf : x.fine) : CV VP 32 [x.ag, .d silvS] [] = some ⟨.agg [.d (I 3), .d (I 0), .d (.sl [nR 11, nR x.f, nR x.h, nR x.a0, nR x.f, nR x.h, nR x.b0, nR x.f, nR x.h, nR x.a1, nR x.f, nR x.h, nR x.b1, nR x.p0, nR x.p1, nR x.l0, nR x.l1, nR x.r0, nR x.r1, nR 115, nR 105, nR 108, nR 118, nR 101, nR 114])], [], [], 0⟩ := by
  obtain ⟨f1, f2⟩ := fam_in ho
  have g0 := hf.a0
  have g1 := hf.b0
  have g2 := hf.a1
  have g3 := hf.b1
  have g4 := hf.ab0
  have g5 := hf.ab1
  have h := k32s x.f x.h x.a0 x.b0 x.a1 x.b1 x.p0 x.p1 x.l0 x.l1 x.r0 x.r1
  rw [wF_in (n := x.h) (by omega) (by omega), wF_in (n := x.a0) (by omega) (by omega), wF_in (n := x.b0) (by omega) (by omega), wF_in (n := x.a1) (by omega) (by omega), wF_in (n := x.b1) (by omega) (by omega)] at h
  exact h
theorem tm_silver {r : Ru} (hf : r.fine) (h : (r.tm.toList == silver.toList) = true) : r.tm = silver := by
  rcases hf.act with ⟨_, h1 | h1⟩ | ⟨_, h1⟩
  · rw [h1] at h; exact absurd h (by decide +kernel)
  · exact h1
  · rw [h1] at h; exact absurd h (by decide +kernel)
theorem swap_within {x y : Bx} (hx : x.fine) (ho : x.swap.over y) : (x.swap.meet y).swap.within x := by
  have h1 := hx.ab0
  have h2 := hx.ab1
  have h3 := hx.p01
  have h4 := hx.l01
  have h5 := hx.r01
  obtain ⟨b1, b2, b3, b4, b5, b6, b7, b8, b9, b10, b11, b12⟩ := x
  obtain ⟨y1, y2, y3, y4, y5, y6, y7, y8, y9, y10, y11, y12⟩ := y
  simp only [Bx.within, Bx.over, Bx.swap, Bx.meet, Bx.mk.injEq, true_and] at *
  omega
/-- the rules of a side: those ahead of the gold one -/
theorem ruF_what {l : List Int} (hB : Bytes l) (s : Int) (k : Nat) : ((ruF l s k).1.act = 2 ∧ (ruF l s k).1.tm = silver ∨ ((ruF l s k).1.act = 0 ∨ (ruF l s k).1.act = 1)) ∧ ∃ x, (ruF l s k).1.bs = [x] := by
  have r := nxV_range hB (k := k) (n := 2) (by decide)
  unfold ruF
  split
  · exact ⟨.inl ⟨rfl, rfl⟩, _, rfl⟩
  · refine ⟨.inr ?_, _, rfl⟩
    simp only
    omega
theorem ruS_pre {l : List Int} (hB : Bytes l) {s : Int} (h0 : 0 ≤ s) (h1 : s ≤ 1) (k : Nat) : ∃ (pre : List Ru) (x : Bx) (more : List Bx) (tail : List Ru), (ruS l s k).1 = pre ++ [⟨2, gold, x :: more⟩] ++ tail ∧ pre.length ≤ 2 ∧ more.length ≤ 1 ∧
    (tail = [] ∨ tail = [⟨1, ⟨#[]⟩, [bypass]⟩]) ∧ x.ok ∧ x.fine ∧ ∀ r ∈ pre, (r.act = 2 ∧ r.tm = silver ∨ (r.act = 0 ∨ r.act = 1)) ∧ ∃ x, r.bs = [x] ∧ x.ok ∧ x.fine := by
  have r := nxV_range hB (k := k) (n := 3) (by decide)
  unfold ruS goldF endF
  simp only
  generalize hp : drL (ruF l s) (nxV l k 3).toNat (nxA l k) = p
  have hlen : p.1.length ≤ 2 := by rw [← hp, drL_len]; omega
  have hall : ∀ r ∈ p.1, (r.act = 2 ∧ r.tm = silver ∨ (r.act = 0 ∨ r.act = 1)) ∧ ∃ x, r.bs = [x] ∧ x.ok ∧ x.fine := by
    rw [← hp]
    refine drL_all (P := fun (r : Ru) => (r.act = 2 ∧ r.tm = silver ∨ (r.act = 0 ∨ r.act = 1)) ∧ ∃ x : Bx, r.bs = [x] ∧ x.ok ∧ x.fine) (fun k => ?_) _ _
    obtain ⟨h2, x, hx⟩ := ruF_what hB s k
    have hb := (ruF_fine hB h0 h1 k).bs x (by rw [hx]; exact List.mem_cons_self)
    exact ⟨h2, x, hx, hb.1, hb.2⟩
  split
  · have hb := bxF_both hB h0 h1 (nxA l p.2)
    refine ⟨p.1, _, [(bxF [] s 0).1], _, rfl, hlen, by simp, ?_, hb.1, hb.2, hall⟩
    split
    · exact .inr rfl
    · exact .inl rfl
  · have hb := bxF_both bytes_nil h0 h1 0
    refine ⟨p.1, _, [], _, rfl, hlen, by simp, ?_, hb.1, hb.2, hall⟩
    split
    · exact .inr rfl
    · exact .inl rfl
end Go.Proofs.Ytciaehhaglaafaa
