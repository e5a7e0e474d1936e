/- What a term is as a message, on the machine; the law SessionReads answers true. Conditions: lists of at most 1048576 elements. -/
import Derived.Test.YtjhfakhmflemmaaVd
import Derived.Test.YtjhfakhmflemmaaSry
set_option linter.unusedSimpArgs false
namespace Go.Proofs.Ytjhfakhmflemmaa
open Go.VM
mutual
def Tm.cmp : Tm → Tm → Int
  | .mk a b ts, .mk x y us => if a < x then -1 else if x < a then 1 else if b < y then -1 else if y < b then 1 else
      if (ts.length : Int) < us.length then -1 else if (us.length : Int) < ts.length then 1 else Tm.cmps ts us
def Tm.cmps : List Tm → List Tm → Int
  | t :: ts, u :: us => if t.cmp u = 0 then Tm.cmps ts us else t.cmp u
  | _, _ => 0
end
theorem Tm.cmps_drop {ts us : List Tm} {i : Nat} {t u : Tm} (h : ts[i]? = some t) (k : us[i]? = some u) : Tm.cmps (ts.drop i) (us.drop i) = if t.cmp u = 0 then Tm.cmps (ts.drop (i + 1)) (us.drop (i + 1)) else t.cmp u := by
  obtain ⟨h1, h2⟩ := List.getElem?_eq_some_iff.1 h
  obtain ⟨k1, k2⟩ := List.getElem?_eq_some_iff.1 k
  rw [List.drop_eq_getElem_cons h1, List.drop_eq_getElem_cons k1, h2, k2, Tm.cmps]
mutual
theorem Tm.cmp_zero : ∀ t u : Tm, decide (t.cmp u = 0) = t.eqb u
  | .mk a b ts, .mk x y us => by
    have ih := Tm.cmps_zero ts us
    rw [Tm.eqb, Tm.cmp]
    by_cases h1 : a < x
    · rw [if_pos h1]; have : (a == x) = false := by simp; omega
      rw [this]; rfl
    rw [if_neg h1]
    by_cases h2 : x < a
    · rw [if_pos h2]; have : (a == x) = false := by simp; omega
      rw [this]; rfl
    rw [if_neg h2]
    have : (a == x) = true := by simp; omega
    rw [this, Bool.true_and]
    by_cases h3 : b < y
    · rw [if_pos h3]; have : (b == y) = false := by simp; omega
      rw [this]; rfl
    rw [if_neg h3]
    by_cases h4 : y < b
    · rw [if_pos h4]; have : (b == y) = false := by simp; omega
      rw [this]; rfl
    rw [if_neg h4]
    have : (b == y) = true := by simp; omega
    rw [this, Bool.true_and]
    by_cases h5 : (ts.length : Int) < us.length
    · rw [if_pos h5, Tm.eqbs_len (by omega)]; rfl
    rw [if_neg h5]
    by_cases h6 : (us.length : Int) < ts.length
    · rw [if_pos h6, Tm.eqbs_len (by omega)]; rfl
    rw [if_neg h6]
    exact ih (by omega)
theorem Tm.cmps_zero : ∀ ts us : List Tm, ts.length = us.length → decide (Tm.cmps ts us = 0) = Tm.eqbs ts us
  | [], [], _ => by simp [Tm.cmps, Tm.eqbs]
  | t :: ts, u :: us, h => by
    have h1 := Tm.cmp_zero t u
    have h2 := Tm.cmps_zero ts us (by simpa using h)
    rw [Tm.cmps, Tm.eqbs]
    by_cases h0 : t.cmp u = 0
    · rw [if_pos h0, h2, ← h1, decide_eq_true h0, Bool.true_and]
    · rw [if_neg h0, ← h1, decide_eq_false h0, Bool.false_and]
  | [], _ :: _, h => by simp at h
  | _ :: _, [], h => by simp at h
end
set_option maxHeartbeats 4000000 in
theorem e119 : ∀ (n : Nat) (t u : Tm), SizeOf.sizeOf t < n → t.small → CV VP 90 [t.ag, u.ag] [] = some ⟨.d (I (t.cmp u)), [], [], 0⟩
  | 0, t, u, h, _ => absurd h (Nat.not_lt_zero _)
  | n + 1, .mk a b ts, .mk x y us, hn, hs => by
    have w0 : IntKind.i64.wrap (0 + 1) = 1 := rfl
    have w1 : IntKind.i64.wrap (1 + 1) = 2 := rfl
    have w2 : IntKind.i64.wrap (2 + 1) = 3 := rfl
    simp only [Tm.ag, Tm.op_mk, Tm.val_mk, Tm.args_mk, Tm.cmp]
    obtain ⟨hs1, hs2⟩ := hs
    refine CV_run (vf := vf90) rfl rfl ?_
    rw [vf90_start]
    have fin : ∀ st0, ts.length = us.length → At vf90K1 2 st0 ((.any :: .any :: .any :: .ptr 1 0 :: .any :: .any :: .any :: .any :: .any :: .any :: .any :: .any :: .any :: .any :: .any :: .any :: .any :: .any :: .any :: .any :: .any :: .any :: .any :: .any :: .any :: .any :: .any :: .any :: .any :: .any :: .any :: .any :: .any :: .any :: .any :: .any :: .any :: .any :: .any :: .any :: .any :: .any :: .any :: .d (.sl (ts.map Tm.row)) :: .d (I (ts.length : Nat)) :: .d (I ((0 : Nat) : Int)) :: .any :: .any :: .any :: .any :: .any :: .any :: .any :: .any :: .any :: .any :: .any :: .any :: .any :: .any :: .any :: [])) [[.d (I a), .d (I b), .d (.sl (ts.map Tm.row))], [.d (I x), .d (I y), .d (.sl (us.map Tm.row))]] [] 0 0 →
        RL VP vf90K1 vf90L1 2 st0 (outQ 2 (thn VP ((VCode.reg [⟨some 4, .mov (.c (.d (.lit (.int .i64 0)))), none⟩]).seq .ret) (retQ vf90 0 ⟨.d (I (Tm.cmps ts us)), [], [], 0⟩))) := by
      intro st0 hl hat0
      refine RL_ind (fun m st => ∃ i : Nat, i + m = ts.length ∧ Tm.cmps (ts.drop i) (us.drop i) = Tm.cmps ts us ∧ At vf90K1 2 st ((.any :: .any :: .any :: .ptr 1 0 :: .any :: .any :: .any :: .any :: .any :: .any :: .any :: .any :: .any :: .any :: .any :: .any :: .any :: .any :: .any :: .any :: .any :: .any :: .any :: .any :: .any :: .any :: .any :: .any :: .any :: .any :: .any :: .any :: .any :: .any :: .any :: .any :: .any :: .any :: .any :: .any :: .any :: .any :: .any :: .d (.sl (ts.map Tm.row)) :: .d (I (ts.length : Nat)) :: .d (I (i : Nat)) :: .any :: .any :: .any :: .any :: .any :: .any :: .any :: .any :: .any :: .any :: .any :: .any :: .any :: .any :: .any :: [])) [[.d (I a), .d (I b), .d (.sl (ts.map Tm.row))], [.d (I x), .d (I y), .d (.sl (us.map Tm.row))]] [] 0 0) ?_ ts.length _ ⟨0, Nat.zero_add _, rfl, hat0⟩
      rintro m st ⟨i, hi, hc, hat⟩ ih
      refine RL_at hat rfl rfl (vf90L1_go ?_)
      clear hat hat0
      cases m with
      | zero =>
        have h1 : ¬ i < ts.length := by omega
        rw [List.drop_eq_nil_of_le (by omega), List.drop_eq_nil_of_le (by omega), Tm.cmps] at hc
        rw [← hc]
        (repeat (first
    | refine RX_seq ?_
    | refine RX_block ?_
    | ((first | refine RX_reg ?_ | refine RX_cond' ?_ | refine RX_draw0 ?_ | refine RX_draw rfl ?_ | refine RX_skip ?_ | refine RX_exit ?_ | refine RX_ret ?_); try (simp only [go_sem, Nat.max_zero, List.isEmpty_cons, Int.reduceToNat, Nat.reducePow, Int.reduceEq, Int.reduceNe, Int.reduceLT, Int.reduceLE, Nat.reduceAdd, Nat.reduceLeDiff, ↓reduceIte, Nat.reduceLT, Nat.reduceMul, Nat.reduceSub, reduceCtorEq, frzLoc, rowCells, vAppM, beq_iff_eq, bne_iff_ne, bne_self_eq_false, beq_self_eq_true, beq_true, beq_false, I, B, w, vf90_res, vf90_keep, h1]))))
        all_goals simp
      | succ m =>
        have h1 : i < ts.length := by omega
        have h2 : i < us.length := by omega
        obtain ⟨t, ht⟩ : ∃ t, ts[i]? = some t := ⟨_, List.getElem?_eq_getElem h1⟩
        obtain ⟨u, hu⟩ : ∃ u, us[i]? = some u := ⟨_, List.getElem?_eq_getElem h2⟩
        have hrt : (ts.map Tm.row)[i]? = some t.row := by rw [List.getElem?_map, ht]; rfl
        have hru : (us.map Tm.row)[i]? = some u.row := by rw [List.getElem?_map, hu]; rfl
        have h119 := e119 n t u (by
          have := List.sizeOf_lt_of_mem (List.mem_of_getElem? ht)
          simp only [Tm.mk.sizeOf_spec] at hn
          omega) (Tm.smalls_mem hs2 (List.mem_of_getElem? ht))
        rw [Tm.cmps_drop ht hu] at hc
        have hwi := w_nat (i := i) (by omega)
        simp only [Tm.row_eq] at hrt hru
        simp only [Tm.ag] at h119
        by_cases h0 : t.cmp u = 0
        · rw [if_pos h0] at hc
          (repeat (first
    | refine RX_seq ?_
    | refine RX_block ?_
    | ((first | refine RX_reg ?_ | refine RX_cond' ?_ | refine RX_draw0 ?_ | refine RX_draw rfl ?_ | refine RX_skip ?_ | refine RX_exit ?_ | refine RX_ret ?_); try (simp only [go_sem, Nat.max_zero, List.isEmpty_cons, Int.reduceToNat, Nat.reducePow, Int.reduceEq, Int.reduceNe, Int.reduceLT, Int.reduceLE, Nat.reduceAdd, Nat.reduceLeDiff, ↓reduceIte, Nat.reduceLT, Nat.reduceMul, Nat.reduceSub, reduceCtorEq, frzLoc, rowCells, vAppM, beq_iff_eq, bne_iff_ne, bne_self_eq_false, beq_self_eq_true, beq_true, beq_false, I, B, w, vf90_res, vf90_keep, List.length_map, h1, h2, hrt, hru, h119, h0, hwi]))))
          exact ih m _ (Nat.lt_succ_self m) ⟨i + 1, by omega, hc, rfl, rfl, rfl, rfl, rfl, rfl⟩
        · rw [if_neg h0] at hc
          rw [← hc]
          (repeat (first
    | refine RX_seq ?_
    | refine RX_block ?_
    | ((first | refine RX_reg ?_ | refine RX_cond' ?_ | refine RX_draw0 ?_ | refine RX_draw rfl ?_ | refine RX_skip ?_ | refine RX_exit ?_ | refine RX_ret ?_); try (simp only [go_sem, Nat.max_zero, List.isEmpty_cons, Int.reduceToNat, Nat.reducePow, Int.reduceEq, Int.reduceNe, Int.reduceLT, Int.reduceLE, Nat.reduceAdd, Nat.reduceLeDiff, ↓reduceIte, Nat.reduceLT, Nat.reduceMul, Nat.reduceSub, reduceCtorEq, frzLoc, rowCells, vAppM, beq_iff_eq, bne_iff_ne, bne_self_eq_false, beq_self_eq_true, beq_true, beq_false, I, B, w, vf90_res, vf90_keep, List.length_map, h1, h2, hrt, hru, h119, ibne, h0, hwi]))))
    (repeat' (first
    | refine RX_seq ?_
    | refine RX_block ?_
    | ((first | refine RX_reg ?_ | refine RX_cond' ?_ | refine RX_draw0 ?_ | refine RX_draw rfl ?_ | refine RX_skip ?_ | refine RX_exit ?_ | refine RX_ret ?_); try (simp only [go_sem, Nat.max_zero, List.isEmpty_cons, Int.reduceToNat, Nat.reducePow, Int.reduceEq, Int.reduceNe, Int.reduceLT, Int.reduceLE, Nat.reduceAdd, Nat.reduceLeDiff, ↓reduceIte, Nat.reduceLT, Nat.reduceMul, Nat.reduceSub, reduceCtorEq, frzLoc, rowCells, vAppM, bne_self_eq_false, beq_self_eq_true, beq_true, beq_false, I, B, w, ibeq, ibne, bbeq, decide_eq_false_iff_not, decide_not, Bool.not_not, Decidable.not_not, Bool.not_eq_eq_eq_not, gt_iff_lt, ge_iff_le, and_false, false_and, or_self, and_self, vf90_res, vf90_keep, List.length_map, *]))
    | (refine ite_ngo (fun _ => ?_) (fun _ => ?_) <;> try (simp only [go_sem, Nat.max_zero, List.isEmpty_cons, Int.reduceToNat, Nat.reducePow, Int.reduceEq, Int.reduceNe, Int.reduceLT, Int.reduceLE, Nat.reduceAdd, Nat.reduceLeDiff, ↓reduceIte, Nat.reduceLT, Nat.reduceMul, Nat.reduceSub, reduceCtorEq, frzLoc, rowCells, vAppM, bne_self_eq_false, beq_self_eq_true, beq_true, beq_false, I, B, w, ibeq, ibne, bbeq, decide_eq_false_iff_not, decide_not, Bool.not_not, Decidable.not_not, Bool.not_eq_eq_eq_not, gt_iff_lt, ge_iff_le, and_false, false_and, or_self, and_self, vf90_res, vf90_keep, List.length_map, *]))
    | (refine ite_go (fun _ => ?_) (fun _ => ?_) <;> try (simp only [go_sem, Nat.max_zero, List.isEmpty_cons, Int.reduceToNat, Nat.reducePow, Int.reduceEq, Int.reduceNe, Int.reduceLT, Int.reduceLE, Nat.reduceAdd, Nat.reduceLeDiff, ↓reduceIte, Nat.reduceLT, Nat.reduceMul, Nat.reduceSub, reduceCtorEq, frzLoc, rowCells, vAppM, bne_self_eq_false, beq_self_eq_true, beq_true, beq_false, I, B, w, ibeq, ibne, bbeq, decide_eq_false_iff_not, decide_not, Bool.not_not, Decidable.not_not, Bool.not_eq_eq_eq_not, gt_iff_lt, ge_iff_le, and_false, false_and, or_self, and_self, vf90_res, vf90_keep, List.length_map, *]))
    | (refine RL_head ?_; simp only [go_sem, Nat.max_zero, List.isEmpty_cons, Int.reduceToNat, Nat.reducePow, Int.reduceEq, Int.reduceNe, Int.reduceLT, Int.reduceLE, Nat.reduceAdd, Nat.reduceLeDiff, ↓reduceIte, Nat.reduceLT, Nat.reduceMul, Nat.reduceSub, reduceCtorEq, frzLoc, rowCells, vAppM, bne_self_eq_false, beq_self_eq_true, beq_true, beq_false, I, B, w, ibeq, ibne, bbeq, decide_eq_false_iff_not, decide_not, Bool.not_not, Decidable.not_not, Bool.not_eq_eq_eq_not, gt_iff_lt, ge_iff_le, and_false, false_and, or_self, and_self, vf90_res, vf90_keep, List.length_map, *, St.head, forget, vf90K0, RLK_some]; refine vf90L0_go ?_)
    | refine RX_loop ?_))
    exact fin _ (by omega) ⟨rfl, rfl, rfl, rfl, rfl, rfl⟩
theorem e99 (t u : Tm) (hs : t.small) : CV VP 65 [t.ag, u.ag] [] = some ⟨.d (B (t.eqb u)), [], [], 0⟩ := by
  have h := e119 _ t u (Nat.lt_succ_self _) hs
  rw [← Tm.cmp_zero]
  refine CV_run (vf := vf65) rfl rfl ?_
  rw [vf65_start]
  simp only [Tm.ag] at *
  (repeat (first
    | refine RX_seq ?_
    | refine RX_block ?_
    | ((first | refine RX_reg ?_ | refine RX_cond' ?_ | refine RX_draw0 ?_ | refine RX_draw rfl ?_ | refine RX_skip ?_ | refine RX_exit ?_ | refine RX_ret ?_); try (simp only [go_sem, Nat.max_zero, List.isEmpty_cons, Int.reduceToNat, Nat.reducePow, Int.reduceEq, Int.reduceNe, Int.reduceLT, Int.reduceLE, Nat.reduceAdd, Nat.reduceLeDiff, ↓reduceIte, Nat.reduceLT, Nat.reduceMul, Nat.reduceSub, reduceCtorEq, frzLoc, rowCells, vAppM, beq_iff_eq, bne_iff_ne, bne_self_eq_false, beq_self_eq_true, beq_true, beq_false, I, B, w, vf65_res, vf65_keep, h, ibeq]))))
end Go.Proofs.Ytjhfakhmflemmaa

namespace Go.Proofs.Ytjhfakhmflemmaa
open Go.VM
/-- is it a list that begins with a number? -/
def Tm.partB : Tm → Bool
  | .mk o _ (a :: _) => decide (o = 3) && decide (a.op = 1)
  | .mk _ _ [] => false
/-- a list of parts, or nothing -/
def Tm.parts (t : Tm) : Option (List Tm) := if t.op = 3 ∧ t.args.all Tm.partB = true then some t.args else none
def partsV : Option (List Tm) → V
  | some ps => .tup [.d (.sl (ps.map Tm.row)), .d (B true)]
  | none => .tup [.d (.sl []), .d (B false)]
theorem parts_bad {t : Tm} {i : Nat} {p : Tm} (h : t.args[i]? = some p) (hp : p.partB = false) : t.parts = none := by
  unfold Tm.parts
  rw [if_neg]
  rintro ⟨_, h2⟩
  rw [List.all_eq_true] at h2
  rw [h2 p (List.mem_of_getElem? h)] at hp
  cases hp
theorem parts_good {t : Tm} (ho : t.op = 3) (h : ∀ (i : Nat) (p : Tm), t.args[i]? = some p → p.partB = true) : t.parts = some t.args := by
  unfold Tm.parts
  refine if_pos ⟨ho, ?_⟩
  rw [List.all_eq_true]
  intro p hp
  obtain ⟨i, hi⟩ := List.getElem?_of_mem hp
  exact h i p hi
set_option maxHeartbeats 4000000 in
theorem e95 (t : Tm) (hl : t.args.length < 2000000) : CV VP 61 [t.ag] [] = some ⟨partsV t.parts, [], [], 0⟩ := by
  by_cases ho : t.op = 3
  case neg =>
    have : t.parts = none := by unfold Tm.parts; rw [if_neg (fun h => ho h.1)]
    rw [this]
    simp only [partsV, Tm.ag]
    refine CV_run (vf := vf61) rfl rfl ?_
    rw [vf61_start]
    (repeat' (first
    | refine RX_seq ?_
    | refine RX_block ?_
    | ((first | refine RX_reg ?_ | refine RX_cond' ?_ | refine RX_draw0 ?_ | refine RX_draw rfl ?_ | refine RX_skip ?_ | refine RX_exit ?_ | refine RX_ret ?_); try (simp only [go_sem, Nat.max_zero, List.isEmpty_cons, Int.reduceToNat, Nat.reducePow, Int.reduceEq, Int.reduceNe, Int.reduceLT, Int.reduceLE, Nat.reduceAdd, Nat.reduceLeDiff, ↓reduceIte, Nat.reduceLT, Nat.reduceMul, Nat.reduceSub, reduceCtorEq, frzLoc, rowCells, vAppM, bne_self_eq_false, beq_self_eq_true, beq_true, beq_false, I, B, w, ibeq, ibne, bbeq, decide_eq_false_iff_not, decide_not, Bool.not_not, Decidable.not_not, Bool.not_eq_eq_eq_not, gt_iff_lt, ge_iff_le, and_false, false_and, or_self, and_self, vf61_res, vf61_keep, *]))
    | (refine ite_ngo (fun _ => ?_) (fun _ => ?_) <;> try (simp only [go_sem, Nat.max_zero, List.isEmpty_cons, Int.reduceToNat, Nat.reducePow, Int.reduceEq, Int.reduceNe, Int.reduceLT, Int.reduceLE, Nat.reduceAdd, Nat.reduceLeDiff, ↓reduceIte, Nat.reduceLT, Nat.reduceMul, Nat.reduceSub, reduceCtorEq, frzLoc, rowCells, vAppM, bne_self_eq_false, beq_self_eq_true, beq_true, beq_false, I, B, w, ibeq, ibne, bbeq, decide_eq_false_iff_not, decide_not, Bool.not_not, Decidable.not_not, Bool.not_eq_eq_eq_not, gt_iff_lt, ge_iff_le, and_false, false_and, or_self, and_self, vf61_res, vf61_keep, *]))
    | (refine ite_go (fun _ => ?_) (fun _ => ?_) <;> try (simp only [go_sem, Nat.max_zero, List.isEmpty_cons, Int.reduceToNat, Nat.reducePow, Int.reduceEq, Int.reduceNe, Int.reduceLT, Int.reduceLE, Nat.reduceAdd, Nat.reduceLeDiff, ↓reduceIte, Nat.reduceLT, Nat.reduceMul, Nat.reduceSub, reduceCtorEq, frzLoc, rowCells, vAppM, bne_self_eq_false, beq_self_eq_true, beq_true, beq_false, I, B, w, ibeq, ibne, bbeq, decide_eq_false_iff_not, decide_not, Bool.not_not, Decidable.not_not, Bool.not_eq_eq_eq_not, gt_iff_lt, ge_iff_le, and_false, false_and, or_self, and_self, vf61_res, vf61_keep, *]))))
  have h71 := e71 (Tm.rows3 t.args (by omega))
  refine CV_run (vf := vf61) rfl rfl ?_
  rw [vf61_start]
  simp only [Tm.ag]
  (repeat' (first
    | refine RX_seq ?_
    | refine RX_block ?_
    | ((first | refine RX_reg ?_ | refine RX_cond' ?_ | refine RX_draw0 ?_ | refine RX_draw rfl ?_ | refine RX_skip ?_ | refine RX_exit ?_ | refine RX_ret ?_); try (simp only [go_sem, Nat.max_zero, List.isEmpty_cons, Int.reduceToNat, Nat.reducePow, Int.reduceEq, Int.reduceNe, Int.reduceLT, Int.reduceLE, Nat.reduceAdd, Nat.reduceLeDiff, ↓reduceIte, Nat.reduceLT, Nat.reduceMul, Nat.reduceSub, reduceCtorEq, frzLoc, rowCells, vAppM, bne_self_eq_false, beq_self_eq_true, beq_true, beq_false, I, B, w, ibeq, ibne, bbeq, decide_eq_false_iff_not, decide_not, Bool.not_not, Decidable.not_not, Bool.not_eq_eq_eq_not, gt_iff_lt, ge_iff_le, and_false, false_and, or_self, and_self, vf61_res, vf61_keep, List.length_map, *]))
    | (refine ite_ngo (fun _ => ?_) (fun _ => ?_) <;> try (simp only [go_sem, Nat.max_zero, List.isEmpty_cons, Int.reduceToNat, Nat.reducePow, Int.reduceEq, Int.reduceNe, Int.reduceLT, Int.reduceLE, Nat.reduceAdd, Nat.reduceLeDiff, ↓reduceIte, Nat.reduceLT, Nat.reduceMul, Nat.reduceSub, reduceCtorEq, frzLoc, rowCells, vAppM, bne_self_eq_false, beq_self_eq_true, beq_true, beq_false, I, B, w, ibeq, ibne, bbeq, decide_eq_false_iff_not, decide_not, Bool.not_not, Decidable.not_not, Bool.not_eq_eq_eq_not, gt_iff_lt, ge_iff_le, and_false, false_and, or_self, and_self, vf61_res, vf61_keep, List.length_map, *]))
    | (refine ite_go (fun _ => ?_) (fun _ => ?_) <;> try (simp only [go_sem, Nat.max_zero, List.isEmpty_cons, Int.reduceToNat, Nat.reducePow, Int.reduceEq, Int.reduceNe, Int.reduceLT, Int.reduceLE, Nat.reduceAdd, Nat.reduceLeDiff, ↓reduceIte, Nat.reduceLT, Nat.reduceMul, Nat.reduceSub, reduceCtorEq, frzLoc, rowCells, vAppM, bne_self_eq_false, beq_self_eq_true, beq_true, beq_false, I, B, w, ibeq, ibne, bbeq, decide_eq_false_iff_not, decide_not, Bool.not_not, Decidable.not_not, Bool.not_eq_eq_eq_not, gt_iff_lt, ge_iff_le, and_false, false_and, or_self, and_self, vf61_res, vf61_keep, List.length_map, *]))))
  refine RX_loopN (n := 1) rfl ?_
  refine RL_ind (fun m st => ∃ i : Nat, i + m = t.args.length ∧ (∀ (j : Nat) (p : Tm), j < i → t.args[j]? = some p → p.partB = true) ∧ At vf61K0 1 st ((.any :: .ptr 0 0 :: .any :: .any :: .any :: .any :: .any :: .any :: .any :: .any :: .d (.sl (t.args.map Tm.row)) :: .d (I (t.args.length : Nat)) :: .d (I (i : Nat)) :: .any :: .any :: .any :: .any :: .any :: .any :: .any :: .any :: .any :: .any :: .any :: .any :: .any :: .any :: .any :: .any :: .any :: .any :: .any :: .any :: .any :: .any :: .any :: .any :: .any :: [])) [[.d (I 3), .d (I t.val), .d (.sl (t.args.map Tm.row))]] [] 0 0) ?_ t.args.length _
    ⟨0, Nat.zero_add _, fun j p hj => absurd hj (Nat.not_lt_zero _), rfl, rfl, rfl, rfl, rfl, rfl⟩
  rintro m st ⟨i, hi, hgood, hat⟩ ih
  refine RL_at hat rfl rfl (vf61L0_go ?_)
  clear hat
  cases m with
  | zero =>
    have h1 : ¬ i < t.args.length := by omega
    rw [parts_good ho fun j p hj => hgood j p (by have := (List.getElem?_eq_some_iff.1 hj).1; omega) hj]
    simp only [partsV]
    clear ih hgood
    (repeat (first
    | refine RX_seq ?_
    | refine RX_block ?_
    | ((first | refine RX_reg ?_ | refine RX_cond' ?_ | refine RX_draw0 ?_ | refine RX_draw rfl ?_ | refine RX_skip ?_ | refine RX_exit ?_ | refine RX_ret ?_); try (simp only [go_sem, Nat.max_zero, List.isEmpty_cons, Int.reduceToNat, Nat.reducePow, Int.reduceEq, Int.reduceNe, Int.reduceLT, Int.reduceLE, Nat.reduceAdd, Nat.reduceLeDiff, ↓reduceIte, Nat.reduceLT, Nat.reduceMul, Nat.reduceSub, reduceCtorEq, frzLoc, rowCells, vAppM, beq_iff_eq, bne_iff_ne, bne_self_eq_false, beq_self_eq_true, beq_true, beq_false, I, B, w, vf61_res, vf61_keep, h1, h71]))))
  | succ m =>
    have h1 : i < t.args.length := by omega
    obtain ⟨p, hp⟩ : ∃ p, t.args[i]? = some p := ⟨_, List.getElem?_eq_getElem h1⟩
    have hrp : (t.args.map Tm.row)[i]? = some p.row := by rw [List.getElem?_map, hp]; rfl
    have hwi := w_nat (i := i) (by omega)
    have next := fun (h : p.partB = true) st hat => ih m st (Nat.lt_succ_self m) ⟨i + 1, by omega, fun j q hj hq => by
      rcases Nat.lt_or_ge j i with hji | hji
      · exact hgood j q hji hq
      · obtain rfl : j = i := by omega
        rw [hp] at hq; cases hq; exact h, hat⟩
    have bad := fun (h : p.partB = false) => parts_bad hp h
    clear ih hgood
    obtain ⟨po, pv, pa⟩ := p
    simp only [Tm.row_mk] at hrp
    by_cases h3 : po = 3
    · cases pa with
      | nil =>
        rw [bad rfl]
        simp only [List.map_nil] at hrp
        simp only [partsV]
        (repeat (first
    | refine RX_seq ?_
    | refine RX_block ?_
    | ((first | refine RX_reg ?_ | refine RX_cond' ?_ | refine RX_draw0 ?_ | refine RX_draw rfl ?_ | refine RX_skip ?_ | refine RX_exit ?_ | refine RX_ret ?_); try (simp only [go_sem, Nat.max_zero, List.isEmpty_cons, Int.reduceToNat, Nat.reducePow, Int.reduceEq, Int.reduceNe, Int.reduceLT, Int.reduceLE, Nat.reduceAdd, Nat.reduceLeDiff, ↓reduceIte, Nat.reduceLT, Nat.reduceMul, Nat.reduceSub, reduceCtorEq, frzLoc, rowCells, vAppM, beq_iff_eq, bne_iff_ne, bne_self_eq_false, beq_self_eq_true, beq_true, beq_false, I, B, w, vf61_res, vf61_keep, List.length_map, h1, hrp, ibne, ibeq, h3]))))
      | cons a az =>
        simp only [List.map_cons, Tm.row_eq a] at hrp
        have hne : ¬ ((az.length + 1 : Nat) : Int) = 0 := by omega
        have hps : (0 : Int) < ((az.length + 1 : Nat) : Int) := by omega
        by_cases h4 : a.op = 1
        · have n2 := next (by simp [Tm.partB, h3, h4])
          (repeat (first
    | refine RX_seq ?_
    | refine RX_block ?_
    | ((first | refine RX_reg ?_ | refine RX_cond' ?_ | refine RX_draw0 ?_ | refine RX_draw rfl ?_ | refine RX_skip ?_ | refine RX_exit ?_ | refine RX_ret ?_); try (simp only [go_sem, Nat.max_zero, List.isEmpty_cons, Int.reduceToNat, Nat.reducePow, Int.reduceEq, Int.reduceNe, Int.reduceLT, Int.reduceLE, Nat.reduceAdd, Nat.reduceLeDiff, ↓reduceIte, Nat.reduceLT, Nat.reduceMul, Nat.reduceSub, reduceCtorEq, frzLoc, rowCells, vAppM, beq_iff_eq, bne_iff_ne, bne_self_eq_false, beq_self_eq_true, beq_true, beq_false, I, B, w, vf61_res, vf61_keep, List.length_map, h1, hrp, ibne, ibeq, h3, h4, hne, hps, hwi]))))
          exact n2 _ ⟨rfl, rfl, rfl, rfl, rfl, rfl⟩
        · rw [bad (by simp [Tm.partB, h4])]
          simp only [partsV]
          (repeat (first
    | refine RX_seq ?_
    | refine RX_block ?_
    | ((first | refine RX_reg ?_ | refine RX_cond' ?_ | refine RX_draw0 ?_ | refine RX_draw rfl ?_ | refine RX_skip ?_ | refine RX_exit ?_ | refine RX_ret ?_); try (simp only [go_sem, Nat.max_zero, List.isEmpty_cons, Int.reduceToNat, Nat.reducePow, Int.reduceEq, Int.reduceNe, Int.reduceLT, Int.reduceLE, Nat.reduceAdd, Nat.reduceLeDiff, ↓reduceIte, Nat.reduceLT, Nat.reduceMul, Nat.reduceSub, reduceCtorEq, frzLoc, rowCells, vAppM, beq_iff_eq, bne_iff_ne, bne_self_eq_false, beq_self_eq_true, beq_true, beq_false, I, B, w, vf61_res, vf61_keep, List.length_map, h1, hrp, ibne, ibeq, h3, h4, hne, hps]))))
    · rw [bad (by cases pa <;> simp [Tm.partB, h3])]
      simp only [partsV]
      (repeat (first
    | refine RX_seq ?_
    | refine RX_block ?_
    | ((first | refine RX_reg ?_ | refine RX_cond' ?_ | refine RX_draw0 ?_ | refine RX_draw rfl ?_ | refine RX_skip ?_ | refine RX_exit ?_ | refine RX_ret ?_); try (simp only [go_sem, Nat.max_zero, List.isEmpty_cons, Int.reduceToNat, Nat.reducePow, Int.reduceEq, Int.reduceNe, Int.reduceLT, Int.reduceLE, Nat.reduceAdd, Nat.reduceLeDiff, ↓reduceIte, Nat.reduceLT, Nat.reduceMul, Nat.reduceSub, reduceCtorEq, frzLoc, rowCells, vAppM, beq_iff_eq, bne_iff_ne, bne_self_eq_false, beq_self_eq_true, beq_true, beq_false, I, B, w, vf61_res, vf61_keep, List.length_map, h1, hrp, ibne, h3]))))
end Go.Proofs.Ytjhfakhmflemmaa

namespace Go.Proofs.Ytjhfakhmflemmaa
open Go.VM
set_option maxHeartbeats 4000000 in
theorem e97 (t : Tm) (hl : t.args.length < 2000000) : CV VP 63 [t.ag] [] = some ⟨partsV t.parts, [], [], 0⟩ := by
  by_cases ho : t.op = 3
  case neg =>
    have : t.parts = none := by unfold Tm.parts; rw [if_neg (fun h => ho h.1)]
    rw [this]
    simp only [partsV, Tm.ag]
    refine CV_run (vf := vf63) rfl rfl ?_
    rw [vf63_start]
    (repeat' (first
    | refine RX_seq ?_
    | refine RX_block ?_
    | ((first | refine RX_reg ?_ | refine RX_cond' ?_ | refine RX_draw0 ?_ | refine RX_draw rfl ?_ | refine RX_skip ?_ | refine RX_exit ?_ | refine RX_ret ?_); try (simp only [go_sem, Nat.max_zero, List.isEmpty_cons, Int.reduceToNat, Nat.reducePow, Int.reduceEq, Int.reduceNe, Int.reduceLT, Int.reduceLE, Nat.reduceAdd, Nat.reduceLeDiff, ↓reduceIte, Nat.reduceLT, Nat.reduceMul, Nat.reduceSub, reduceCtorEq, frzLoc, rowCells, vAppM, bne_self_eq_false, beq_self_eq_true, beq_true, beq_false, I, B, w, ibeq, ibne, bbeq, decide_eq_false_iff_not, decide_not, Bool.not_not, Decidable.not_not, Bool.not_eq_eq_eq_not, gt_iff_lt, ge_iff_le, and_false, false_and, or_self, and_self, vf63_res, vf63_keep, *]))
    | (refine ite_ngo (fun _ => ?_) (fun _ => ?_) <;> try (simp only [go_sem, Nat.max_zero, List.isEmpty_cons, Int.reduceToNat, Nat.reducePow, Int.reduceEq, Int.reduceNe, Int.reduceLT, Int.reduceLE, Nat.reduceAdd, Nat.reduceLeDiff, ↓reduceIte, Nat.reduceLT, Nat.reduceMul, Nat.reduceSub, reduceCtorEq, frzLoc, rowCells, vAppM, bne_self_eq_false, beq_self_eq_true, beq_true, beq_false, I, B, w, ibeq, ibne, bbeq, decide_eq_false_iff_not, decide_not, Bool.not_not, Decidable.not_not, Bool.not_eq_eq_eq_not, gt_iff_lt, ge_iff_le, and_false, false_and, or_self, and_self, vf63_res, vf63_keep, *]))
    | (refine ite_go (fun _ => ?_) (fun _ => ?_) <;> try (simp only [go_sem, Nat.max_zero, List.isEmpty_cons, Int.reduceToNat, Nat.reducePow, Int.reduceEq, Int.reduceNe, Int.reduceLT, Int.reduceLE, Nat.reduceAdd, Nat.reduceLeDiff, ↓reduceIte, Nat.reduceLT, Nat.reduceMul, Nat.reduceSub, reduceCtorEq, frzLoc, rowCells, vAppM, bne_self_eq_false, beq_self_eq_true, beq_true, beq_false, I, B, w, ibeq, ibne, bbeq, decide_eq_false_iff_not, decide_not, Bool.not_not, Decidable.not_not, Bool.not_eq_eq_eq_not, gt_iff_lt, ge_iff_le, and_false, false_and, or_self, and_self, vf63_res, vf63_keep, *]))))
  refine CV_run (vf := vf63) rfl rfl ?_
  rw [vf63_start]
  simp only [Tm.ag]
  (repeat' (first
    | refine RX_seq ?_
    | refine RX_block ?_
    | ((first | refine RX_reg ?_ | refine RX_cond' ?_ | refine RX_draw0 ?_ | refine RX_draw rfl ?_ | refine RX_skip ?_ | refine RX_exit ?_ | refine RX_ret ?_); try (simp only [go_sem, Nat.max_zero, List.isEmpty_cons, Int.reduceToNat, Nat.reducePow, Int.reduceEq, Int.reduceNe, Int.reduceLT, Int.reduceLE, Nat.reduceAdd, Nat.reduceLeDiff, ↓reduceIte, Nat.reduceLT, Nat.reduceMul, Nat.reduceSub, reduceCtorEq, frzLoc, rowCells, vAppM, bne_self_eq_false, beq_self_eq_true, beq_true, beq_false, I, B, w, ibeq, ibne, bbeq, decide_eq_false_iff_not, decide_not, Bool.not_not, Decidable.not_not, Bool.not_eq_eq_eq_not, gt_iff_lt, ge_iff_le, and_false, false_and, or_self, and_self, vf63_res, vf63_keep, List.length_map, *]))
    | (refine ite_ngo (fun _ => ?_) (fun _ => ?_) <;> try (simp only [go_sem, Nat.max_zero, List.isEmpty_cons, Int.reduceToNat, Nat.reducePow, Int.reduceEq, Int.reduceNe, Int.reduceLT, Int.reduceLE, Nat.reduceAdd, Nat.reduceLeDiff, ↓reduceIte, Nat.reduceLT, Nat.reduceMul, Nat.reduceSub, reduceCtorEq, frzLoc, rowCells, vAppM, bne_self_eq_false, beq_self_eq_true, beq_true, beq_false, I, B, w, ibeq, ibne, bbeq, decide_eq_false_iff_not, decide_not, Bool.not_not, Decidable.not_not, Bool.not_eq_eq_eq_not, gt_iff_lt, ge_iff_le, and_false, false_and, or_self, and_self, vf63_res, vf63_keep, List.length_map, *]))
    | (refine ite_go (fun _ => ?_) (fun _ => ?_) <;> try (simp only [go_sem, Nat.max_zero, List.isEmpty_cons, Int.reduceToNat, Nat.reducePow, Int.reduceEq, Int.reduceNe, Int.reduceLT, Int.reduceLE, Nat.reduceAdd, Nat.reduceLeDiff, ↓reduceIte, Nat.reduceLT, Nat.reduceMul, Nat.reduceSub, reduceCtorEq, frzLoc, rowCells, vAppM, bne_self_eq_false, beq_self_eq_true, beq_true, beq_false, I, B, w, ibeq, ibne, bbeq, decide_eq_false_iff_not, decide_not, Bool.not_not, Decidable.not_not, Bool.not_eq_eq_eq_not, gt_iff_lt, ge_iff_le, and_false, false_and, or_self, and_self, vf63_res, vf63_keep, List.length_map, *]))))
  refine RX_loopN (n := 1) rfl ?_
  refine RL_ind (fun m st => ∃ i : Nat, i + m = t.args.length ∧ (∀ (j : Nat) (p : Tm), j < i → t.args[j]? = some p → p.partB = true) ∧ At vf63K0 1 st ((.any :: .ptr 0 0 :: .any :: .any :: .d (I (i : Nat)) :: .any :: .any :: .any :: .any :: .any :: .any :: .any :: .any :: .any :: .any :: .any :: .any :: .any :: .any :: .any :: .any :: .any :: .any :: .any :: .any :: .any :: .any :: .any :: .any :: .any :: .any :: .any :: .any :: .any :: .any :: .any :: .any :: .any :: .any :: .any :: [])) [[.d (I 3), .d (I t.val), .d (.sl (t.args.map Tm.row))]] [] 0 0) ?_ t.args.length _
    ⟨0, Nat.zero_add _, fun j p hj => absurd hj (Nat.not_lt_zero _), rfl, rfl, rfl, rfl, rfl, rfl⟩
  rintro m st ⟨i, hi, hgood, hat⟩ ih
  refine RL_at hat rfl rfl (vf63L0_go ?_)
  clear hat
  cases m with
  | zero =>
    have h1 : ¬ i < t.args.length := by omega
    rw [parts_good ho fun j p hj => hgood j p (by have := (List.getElem?_eq_some_iff.1 hj).1; omega) hj]
    simp only [partsV]
    clear ih hgood
    (repeat (first
    | refine RX_seq ?_
    | refine RX_block ?_
    | ((first | refine RX_reg ?_ | refine RX_cond' ?_ | refine RX_draw0 ?_ | refine RX_draw rfl ?_ | refine RX_skip ?_ | refine RX_exit ?_ | refine RX_ret ?_); try (simp only [go_sem, Nat.max_zero, List.isEmpty_cons, Int.reduceToNat, Nat.reducePow, Int.reduceEq, Int.reduceNe, Int.reduceLT, Int.reduceLE, Nat.reduceAdd, Nat.reduceLeDiff, ↓reduceIte, Nat.reduceLT, Nat.reduceMul, Nat.reduceSub, reduceCtorEq, frzLoc, rowCells, vAppM, beq_iff_eq, bne_iff_ne, bne_self_eq_false, beq_self_eq_true, beq_true, beq_false, I, B, w, vf63_res, vf63_keep, List.length_map, h1]))))
  | succ m =>
    have h1 : i < t.args.length := by omega
    obtain ⟨p, hp⟩ : ∃ p, t.args[i]? = some p := ⟨_, List.getElem?_eq_getElem h1⟩
    have hrp : (t.args.map Tm.row)[i]? = some p.row := by rw [List.getElem?_map, hp]; rfl
    have hwi := w_nat (i := i) (by omega)
    have next := fun (h : p.partB = true) st hat => ih m st (Nat.lt_succ_self m) ⟨i + 1, by omega, fun j q hj hq => by
      rcases Nat.lt_or_ge j i with hji | hji
      · exact hgood j q hji hq
      · obtain rfl : j = i := by omega
        rw [hp] at hq; cases hq; exact h, hat⟩
    have bad := fun (h : p.partB = false) => parts_bad hp h
    clear ih hgood
    obtain ⟨po, pv, pa⟩ := p
    simp only [Tm.row_mk] at hrp
    by_cases h3 : po = 3
    · cases pa with
      | nil =>
        rw [bad rfl]
        simp only [List.map_nil] at hrp
        simp only [partsV]
        (repeat (first
    | refine RX_seq ?_
    | refine RX_block ?_
    | ((first | refine RX_reg ?_ | refine RX_cond' ?_ | refine RX_draw0 ?_ | refine RX_draw rfl ?_ | refine RX_skip ?_ | refine RX_exit ?_ | refine RX_ret ?_); try (simp only [go_sem, Nat.max_zero, List.isEmpty_cons, Int.reduceToNat, Nat.reducePow, Int.reduceEq, Int.reduceNe, Int.reduceLT, Int.reduceLE, Nat.reduceAdd, Nat.reduceLeDiff, ↓reduceIte, Nat.reduceLT, Nat.reduceMul, Nat.reduceSub, reduceCtorEq, frzLoc, rowCells, vAppM, beq_iff_eq, bne_iff_ne, bne_self_eq_false, beq_self_eq_true, beq_true, beq_false, I, B, w, vf63_res, vf63_keep, List.length_map, h1, hrp, ibne, ibeq, h3]))))
      | cons a az =>
        simp only [List.map_cons, Tm.row_eq a] at hrp
        have hne : ¬ ((az.length + 1 : Nat) : Int) = 0 := by omega
        have hps : (0 : Int) < ((az.length + 1 : Nat) : Int) := by omega
        by_cases h4 : a.op = 1
        · have n2 := next (by simp [Tm.partB, h3, h4])
          (repeat (first
    | refine RX_seq ?_
    | refine RX_block ?_
    | ((first | refine RX_reg ?_ | refine RX_cond' ?_ | refine RX_draw0 ?_ | refine RX_draw rfl ?_ | refine RX_skip ?_ | refine RX_exit ?_ | refine RX_ret ?_); try (simp only [go_sem, Nat.max_zero, List.isEmpty_cons, Int.reduceToNat, Nat.reducePow, Int.reduceEq, Int.reduceNe, Int.reduceLT, Int.reduceLE, Nat.reduceAdd, Nat.reduceLeDiff, ↓reduceIte, Nat.reduceLT, Nat.reduceMul, Nat.reduceSub, reduceCtorEq, frzLoc, rowCells, vAppM, beq_iff_eq, bne_iff_ne, bne_self_eq_false, beq_self_eq_true, beq_true, beq_false, I, B, w, vf63_res, vf63_keep, List.length_map, h1, hrp, ibne, ibeq, h3, h4, hne, hps, hwi]))))
          exact n2 _ ⟨rfl, rfl, rfl, rfl, rfl, rfl⟩
        · rw [bad (by simp [Tm.partB, h4])]
          simp only [partsV]
          (repeat (first
    | refine RX_seq ?_
    | refine RX_block ?_
    | ((first | refine RX_reg ?_ | refine RX_cond' ?_ | refine RX_draw0 ?_ | refine RX_draw rfl ?_ | refine RX_skip ?_ | refine RX_exit ?_ | refine RX_ret ?_); try (simp only [go_sem, Nat.max_zero, List.isEmpty_cons, Int.reduceToNat, Nat.reducePow, Int.reduceEq, Int.reduceNe, Int.reduceLT, Int.reduceLE, Nat.reduceAdd, Nat.reduceLeDiff, ↓reduceIte, Nat.reduceLT, Nat.reduceMul, Nat.reduceSub, reduceCtorEq, frzLoc, rowCells, vAppM, beq_iff_eq, bne_iff_ne, bne_self_eq_false, beq_self_eq_true, beq_true, beq_false, I, B, w, vf63_res, vf63_keep, List.length_map, h1, hrp, ibne, ibeq, h3, h4, hne, hps]))))
    · rw [bad (by cases pa <;> simp [Tm.partB, h3])]
      simp only [partsV]
      (repeat (first
    | refine RX_seq ?_
    | refine RX_block ?_
    | ((first | refine RX_reg ?_ | refine RX_cond' ?_ | refine RX_draw0 ?_ | refine RX_draw rfl ?_ | refine RX_skip ?_ | refine RX_exit ?_ | refine RX_ret ?_); try (simp only [go_sem, Nat.max_zero, List.isEmpty_cons, Int.reduceToNat, Nat.reducePow, Int.reduceEq, Int.reduceNe, Int.reduceLT, Int.reduceLE, Nat.reduceAdd, Nat.reduceLeDiff, ↓reduceIte, Nat.reduceLT, Nat.reduceMul, Nat.reduceSub, reduceCtorEq, frzLoc, rowCells, vAppM, beq_iff_eq, bne_iff_ne, bne_self_eq_false, beq_self_eq_true, beq_true, beq_false, I, B, w, vf63_res, vf63_keep, List.length_map, h1, hrp, ibne, h3]))))
/-- a message -/
structure Ik where
  kind : Int
  spiI : Int
  spiR : Int
  reply : Bool
  init : Bool
  id : Int
  parts : List Tm
abbrev Ik.cells (m : Ik) : List D := [I m.kind, I m.spiI, I m.spiR, B m.reply, B m.init, I m.id, .sl (m.parts.map Tm.row)]
abbrev Ik.ag (m : Ik) : V := .agg (m.cells.map .d)
def Ik.flag (m : Ik) : Int := (if m.reply then 1 else 0) + (if m.init then 2 else 0)
def Ik.head (m : Ik) : List Tm := [nT m.kind, nT m.spiI, nT m.spiR, nT m.flag, nT m.id]
def Ik.plain (m : Ik) : Tm := .mk 3 0 (m.head ++ [.mk 3 0 m.parts])
def Ik.sealed (m : Ik) (key : Tm) : Tm := .mk 3 0 (m.head ++ [.mk 7 0 [key, m.plain]])
/-- the head of a message, and what follows it -/
def rdHead : List Tm → Option (Ik × Tm)
  | [a0, a1, a2, a3, a4, a5] => if a0.op = 1 ∧ a1.op = 1 ∧ a2.op = 1 ∧ a3.op = 1 ∧ a4.op = 1 ∧ ¬ a3.val < 0 ∧ ¬ 3 < a3.val then some (⟨a0.val, a1.val, a2.val, decide (a3.val % 2 = 1), decide (2 ≤ a3.val), a4.val, []⟩, a5) else none
  | _ => none
def Ik.zero : Ik := ⟨0, 0, 0, false, false, 0, []⟩
theorem rdHead_len {l : List Tm} (h : l.length ≠ 6) : rdHead l = none := by
  unfold rdHead
  split
  · exact absurd rfl h
  · rfl
theorem list6 {α : Type} : ∀ (l : List α), l.length = 6 → ∃ x0 x1 x2 x3 x4 x5, l = [x0, x1, x2, x3, x4, x5]
  | [x0, x1, x2, x3, x4, x5], _ => ⟨x0, x1, x2, x3, x4, x5, rfl⟩
def rdV : Option (Ik × Tm) → V
  | some (m, _) => .tup [m.ag, .d (B true)]
  | none => .tup [Ik.zero.ag, .d (B false)]
theorem tmod2 (f : Int) (h : ¬ f < 0) : f.tmod 2 = f % 2 := Int.tmod_eq_emod_of_nonneg (by omega)
set_option maxHeartbeats 4000000 in
theorem e96 (t : Tm) : CV VP 62 [t.ag] [] = some ⟨rdV (if t.op = 3 then rdHead t.args else none), [], [], 0⟩ := by
  obtain ⟨a, b, l⟩ := t
  simp only [Tm.ag, Tm.op_mk, Tm.val_mk, Tm.args_mk]
  by_cases ha : a = 3
  case neg =>
    simp only [ha, if_false, rdV, Ik.zero, Ik.ag, Ik.cells]
    refine CV_run (vf := vf62) rfl rfl ?_
    rw [vf62_start]
    (repeat' (first
    | refine RX_seq ?_
    | refine RX_block ?_
    | ((first | refine RX_reg ?_ | refine RX_cond' ?_ | refine RX_draw0 ?_ | refine RX_draw rfl ?_ | refine RX_skip ?_ | refine RX_exit ?_ | refine RX_ret ?_); try (simp only [go_sem, Nat.max_zero, List.isEmpty_cons, Int.reduceToNat, Nat.reducePow, Int.reduceEq, Int.reduceNe, Int.reduceLT, Int.reduceLE, Nat.reduceAdd, Nat.reduceLeDiff, ↓reduceIte, Nat.reduceLT, Nat.reduceMul, Nat.reduceSub, reduceCtorEq, frzLoc, rowCells, vAppM, bne_self_eq_false, beq_self_eq_true, beq_true, beq_false, I, B, w, ibeq, ibne, bbeq, decide_eq_false_iff_not, decide_not, Bool.not_not, Decidable.not_not, Bool.not_eq_eq_eq_not, gt_iff_lt, ge_iff_le, and_false, false_and, or_self, and_self, vf62_res, vf62_keep, *]))
    | (refine ite_ngo (fun _ => ?_) (fun _ => ?_) <;> try (simp only [go_sem, Nat.max_zero, List.isEmpty_cons, Int.reduceToNat, Nat.reducePow, Int.reduceEq, Int.reduceNe, Int.reduceLT, Int.reduceLE, Nat.reduceAdd, Nat.reduceLeDiff, ↓reduceIte, Nat.reduceLT, Nat.reduceMul, Nat.reduceSub, reduceCtorEq, frzLoc, rowCells, vAppM, bne_self_eq_false, beq_self_eq_true, beq_true, beq_false, I, B, w, ibeq, ibne, bbeq, decide_eq_false_iff_not, decide_not, Bool.not_not, Decidable.not_not, Bool.not_eq_eq_eq_not, gt_iff_lt, ge_iff_le, and_false, false_and, or_self, and_self, vf62_res, vf62_keep, *]))
    | (refine ite_go (fun _ => ?_) (fun _ => ?_) <;> try (simp only [go_sem, Nat.max_zero, List.isEmpty_cons, Int.reduceToNat, Nat.reducePow, Int.reduceEq, Int.reduceNe, Int.reduceLT, Int.reduceLE, Nat.reduceAdd, Nat.reduceLeDiff, ↓reduceIte, Nat.reduceLT, Nat.reduceMul, Nat.reduceSub, reduceCtorEq, frzLoc, rowCells, vAppM, bne_self_eq_false, beq_self_eq_true, beq_true, beq_false, I, B, w, ibeq, ibne, bbeq, decide_eq_false_iff_not, decide_not, Bool.not_not, Decidable.not_not, Bool.not_eq_eq_eq_not, gt_iff_lt, ge_iff_le, and_false, false_and, or_self, and_self, vf62_res, vf62_keep, *]))))
  simp only [ha, if_true]
  by_cases hl : l.length = 6
  case neg =>
    rw [rdHead_len hl]
    simp only [rdV, Ik.zero, Ik.ag, Ik.cells]
    have hl2 : ¬ (l.length : Int) = 6 := by omega
    refine CV_run (vf := vf62) rfl rfl ?_
    rw [vf62_start]
    (repeat' (first
    | refine RX_seq ?_
    | refine RX_block ?_
    | ((first | refine RX_reg ?_ | refine RX_cond' ?_ | refine RX_draw0 ?_ | refine RX_draw rfl ?_ | refine RX_skip ?_ | refine RX_exit ?_ | refine RX_ret ?_); try (simp only [go_sem, Nat.max_zero, List.isEmpty_cons, Int.reduceToNat, Nat.reducePow, Int.reduceEq, Int.reduceNe, Int.reduceLT, Int.reduceLE, Nat.reduceAdd, Nat.reduceLeDiff, ↓reduceIte, Nat.reduceLT, Nat.reduceMul, Nat.reduceSub, reduceCtorEq, frzLoc, rowCells, vAppM, bne_self_eq_false, beq_self_eq_true, beq_true, beq_false, I, B, w, ibeq, ibne, bbeq, decide_eq_false_iff_not, decide_not, Bool.not_not, Decidable.not_not, Bool.not_eq_eq_eq_not, gt_iff_lt, ge_iff_le, and_false, false_and, or_self, and_self, vf62_res, vf62_keep, List.length_map, *]))
    | (refine ite_ngo (fun _ => ?_) (fun _ => ?_) <;> try (simp only [go_sem, Nat.max_zero, List.isEmpty_cons, Int.reduceToNat, Nat.reducePow, Int.reduceEq, Int.reduceNe, Int.reduceLT, Int.reduceLE, Nat.reduceAdd, Nat.reduceLeDiff, ↓reduceIte, Nat.reduceLT, Nat.reduceMul, Nat.reduceSub, reduceCtorEq, frzLoc, rowCells, vAppM, bne_self_eq_false, beq_self_eq_true, beq_true, beq_false, I, B, w, ibeq, ibne, bbeq, decide_eq_false_iff_not, decide_not, Bool.not_not, Decidable.not_not, Bool.not_eq_eq_eq_not, gt_iff_lt, ge_iff_le, and_false, false_and, or_self, and_self, vf62_res, vf62_keep, List.length_map, *]))
    | (refine ite_go (fun _ => ?_) (fun _ => ?_) <;> try (simp only [go_sem, Nat.max_zero, List.isEmpty_cons, Int.reduceToNat, Nat.reducePow, Int.reduceEq, Int.reduceNe, Int.reduceLT, Int.reduceLE, Nat.reduceAdd, Nat.reduceLeDiff, ↓reduceIte, Nat.reduceLT, Nat.reduceMul, Nat.reduceSub, reduceCtorEq, frzLoc, rowCells, vAppM, bne_self_eq_false, beq_self_eq_true, beq_true, beq_false, I, B, w, ibeq, ibne, bbeq, decide_eq_false_iff_not, decide_not, Bool.not_not, Decidable.not_not, Bool.not_eq_eq_eq_not, gt_iff_lt, ge_iff_le, and_false, false_and, or_self, and_self, vf62_res, vf62_keep, List.length_map, *]))))
  obtain ⟨x0, x1, x2, x3, x4, x5, rfl⟩ := list6 l hl
  clear hl
  have w0 : IntKind.i64.wrap (0 + 1) = 1 := rfl
  have w1 : IntKind.i64.wrap (1 + 1) = 2 := rfl
  have w2 : IntKind.i64.wrap (2 + 1) = 3 := rfl
  have w3 : IntKind.i64.wrap (3 + 1) = 4 := rfl
  have w4 : IntKind.i64.wrap (4 + 1) = 5 := rfl
  have h20 : ¬ (2 : Int) = 0 := by decide
  have hm := tmod2 x3.val
  simp only [List.map_cons, List.map_nil, Tm.row_eq, rdHead]
  refine CV_run (vf := vf62) rfl rfl ?_
  rw [vf62_start]
  (repeat' (first
    | refine RX_seq ?_
    | refine RX_block ?_
    | ((first | refine RX_reg ?_ | refine RX_cond' ?_ | refine RX_draw0 ?_ | refine RX_draw rfl ?_ | refine RX_skip ?_ | refine RX_exit ?_ | refine RX_ret ?_); try (simp only [go_sem, Nat.max_zero, List.isEmpty_cons, Int.reduceToNat, Nat.reducePow, Int.reduceEq, Int.reduceNe, Int.reduceLT, Int.reduceLE, Nat.reduceAdd, Nat.reduceLeDiff, ↓reduceIte, Nat.reduceLT, Nat.reduceMul, Nat.reduceSub, reduceCtorEq, frzLoc, rowCells, vAppM, bne_self_eq_false, beq_self_eq_true, beq_true, beq_false, I, B, w, ibeq, ibne, bbeq, decide_eq_false_iff_not, decide_not, Bool.not_not, Decidable.not_not, Bool.not_eq_eq_eq_not, gt_iff_lt, ge_iff_le, and_false, false_and, or_self, and_self, vf62_res, vf62_keep, rdV, Ik.zero, Ik.ag, Ik.cells, List.map_cons, List.map_nil, *]))
    | (refine ite_ngo (fun _ => ?_) (fun _ => ?_) <;> try (simp only [go_sem, Nat.max_zero, List.isEmpty_cons, Int.reduceToNat, Nat.reducePow, Int.reduceEq, Int.reduceNe, Int.reduceLT, Int.reduceLE, Nat.reduceAdd, Nat.reduceLeDiff, ↓reduceIte, Nat.reduceLT, Nat.reduceMul, Nat.reduceSub, reduceCtorEq, frzLoc, rowCells, vAppM, bne_self_eq_false, beq_self_eq_true, beq_true, beq_false, I, B, w, ibeq, ibne, bbeq, decide_eq_false_iff_not, decide_not, Bool.not_not, Decidable.not_not, Bool.not_eq_eq_eq_not, gt_iff_lt, ge_iff_le, and_false, false_and, or_self, and_self, vf62_res, vf62_keep, rdV, Ik.zero, Ik.ag, Ik.cells, List.map_cons, List.map_nil, *]))
    | (refine ite_go (fun _ => ?_) (fun _ => ?_) <;> try (simp only [go_sem, Nat.max_zero, List.isEmpty_cons, Int.reduceToNat, Nat.reducePow, Int.reduceEq, Int.reduceNe, Int.reduceLT, Int.reduceLE, Nat.reduceAdd, Nat.reduceLeDiff, ↓reduceIte, Nat.reduceLT, Nat.reduceMul, Nat.reduceSub, reduceCtorEq, frzLoc, rowCells, vAppM, bne_self_eq_false, beq_self_eq_true, beq_true, beq_false, I, B, w, ibeq, ibne, bbeq, decide_eq_false_iff_not, decide_not, Bool.not_not, Decidable.not_not, Bool.not_eq_eq_eq_not, gt_iff_lt, ge_iff_le, and_false, false_and, or_self, and_self, vf62_res, vf62_keep, rdV, Ik.zero, Ik.ag, Ik.cells, List.map_cons, List.map_nil, *]))
    | (refine RL_head ?_; simp only [go_sem, Nat.max_zero, List.isEmpty_cons, Int.reduceToNat, Nat.reducePow, Int.reduceEq, Int.reduceNe, Int.reduceLT, Int.reduceLE, Nat.reduceAdd, Nat.reduceLeDiff, ↓reduceIte, Nat.reduceLT, Nat.reduceMul, Nat.reduceSub, reduceCtorEq, frzLoc, rowCells, vAppM, bne_self_eq_false, beq_self_eq_true, beq_true, beq_false, I, B, w, ibeq, ibne, bbeq, decide_eq_false_iff_not, decide_not, Bool.not_not, Decidable.not_not, Bool.not_eq_eq_eq_not, gt_iff_lt, ge_iff_le, and_false, false_and, or_self, and_self, vf62_res, vf62_keep, rdV, Ik.zero, Ik.ag, Ik.cells, List.map_cons, List.map_nil, *, St.head, forget, vf62K0, RLK_some]; refine vf62L0_go ?_)
    | refine RX_loop ?_))
end Go.Proofs.Ytjhfakhmflemmaa

namespace Go.Proofs.Ytjhfakhmflemmaa
open Go.VM
theorem e94 (m : Ik) : CV VP 59 [m.ag] [] = some ⟨.sl 3 (m.head.map Tm.row) .full, [m.cells.map .d], [], 0⟩ := by
  obtain ⟨a, b, c, r, i, d, ps⟩ := m
  simp only [Ik.ag, Ik.cells, Ik.head, Ik.flag, List.map_cons, List.map_nil, nT_row]
  refine CV_run (vf := vf59) rfl rfl ?_
  rw [vf59_start]
  have w1 : IntKind.i64.wrap (0 + 1) = 1 := rfl
  have w2 : IntKind.i64.wrap (0 + 2) = 2 := rfl
  have w3 : IntKind.i64.wrap (1 + 2) = 3 := rfl
  cases r <;> cases i <;>
  · (repeat (first
    | refine RX_seq ?_
    | refine RX_block ?_
    | ((first | refine RX_reg ?_ | refine RX_cond' ?_ | refine RX_draw0 ?_ | refine RX_draw rfl ?_ | refine RX_skip ?_ | refine RX_exit ?_ | refine RX_ret ?_); try (simp only [go_sem, Nat.max_zero, List.isEmpty_cons, Int.reduceToNat, Nat.reducePow, Int.reduceEq, Int.reduceNe, Int.reduceLT, Int.reduceLE, Nat.reduceAdd, Nat.reduceLeDiff, ↓reduceIte, Nat.reduceLT, Nat.reduceMul, Nat.reduceSub, reduceCtorEq, frzLoc, rowCells, vAppM, beq_iff_eq, bne_iff_ne, bne_self_eq_false, beq_self_eq_true, beq_true, beq_false, I, B, w, vf59_res, vf59_keep, e75, w1, w2, w3]))))
    try rfl
theorem e56 (m : Ik) (hl : m.parts.length ≤ 4294967296) : CV VP 18 [m.ag] [] = some ⟨m.plain.ag, [], [], 0⟩ := by
  have h94 := e94 m
  have h33 := e33 (Tm.rows3 m.parts hl)
  have h33b := e33 (Tm.rows3 (m.head ++ [.mk 3 0 m.parts]) (by rw [List.length_append]; simp [Ik.head]))
  obtain ⟨a, b, c, r, i, d, ps⟩ := m
  simp only [Ik.ag, Ik.cells, Ik.plain, Ik.head, Ik.flag, List.map_cons, List.map_nil, nT_row, Tm.ag, Tm.op_mk, Tm.val_mk, Tm.args_mk, Tm.row_mk, List.cons_append, List.nil_append] at *
  refine CV_run (vf := vf18) rfl rfl ?_
  rw [vf18_start]
  (repeat (first
    | refine RX_seq ?_
    | refine RX_block ?_
    | ((first | refine RX_reg ?_ | refine RX_cond' ?_ | refine RX_draw0 ?_ | refine RX_draw rfl ?_ | refine RX_skip ?_ | refine RX_exit ?_ | refine RX_ret ?_); try (simp only [go_sem, Nat.max_zero, List.isEmpty_cons, Int.reduceToNat, Nat.reducePow, Int.reduceEq, Int.reduceNe, Int.reduceLT, Int.reduceLE, Nat.reduceAdd, Nat.reduceLeDiff, ↓reduceIte, Nat.reduceLT, Nat.reduceMul, Nat.reduceSub, reduceCtorEq, frzLoc, rowCells, vAppM, beq_iff_eq, bne_iff_ne, bne_self_eq_false, beq_self_eq_true, beq_true, beq_false, I, B, w, vf18_res, vf18_keep, h94, h33, h33b]))))
theorem e55 (m : Ik) (key : Tm) (hl : m.parts.length ≤ 4294967296) : CV VP 16 [key.ag, m.ag] [] = some ⟨(m.sealed key).ag, [], [], 0⟩ := by
  have h94 := e94 m
  have h56 := e56 m hl
  have h33b := e33 (Tm.rows3 (m.head ++ [.mk 7 0 [key, m.plain]]) (by rw [List.length_append]; simp [Ik.head]))
  simp only [Ik.sealed] at *
  generalize m.plain = p at *
  obtain ⟨a, b, c, r, i, d, ps⟩ := m
  obtain ⟨ka, kb, kc⟩ := key
  obtain ⟨pa, pb, pc⟩ := p
  simp only [Ik.ag, Ik.cells, Ik.head, Ik.flag, List.map_cons, List.map_nil, nT_row, Tm.ag, Tm.op_mk, Tm.val_mk, Tm.args_mk, Tm.row_mk, List.cons_append, List.nil_append] at *
  refine CV_run (vf := vf16) rfl rfl ?_
  rw [vf16_start]
  (repeat (first
    | refine RX_seq ?_
    | refine RX_block ?_
    | ((first | refine RX_reg ?_ | refine RX_cond' ?_ | refine RX_draw0 ?_ | refine RX_draw rfl ?_ | refine RX_skip ?_ | refine RX_exit ?_ | refine RX_ret ?_); try (simp only [go_sem, Nat.max_zero, List.isEmpty_cons, Int.reduceToNat, Nat.reducePow, Int.reduceEq, Int.reduceNe, Int.reduceLT, Int.reduceLE, Nat.reduceAdd, Nat.reduceLeDiff, ↓reduceIte, Nat.reduceLT, Nat.reduceMul, Nat.reduceSub, reduceCtorEq, frzLoc, rowCells, vAppM, beq_iff_eq, bne_iff_ne, bne_self_eq_false, beq_self_eq_true, beq_true, beq_false, I, B, w, vf16_res, vf16_keep, h94, h56, h33b, e57]))))
end Go.Proofs.Ytjhfakhmflemmaa

namespace Go.Proofs.Ytjhfakhmflemmaa
open Go.VM
/-- what a term is as a message: the message, and whether it is sealed -/
def shapeR : Option (Ik × Tm) → Option (Ik × Bool)
  | some (m, r) => (match r.parts with
    | some ps => some ({ m with parts := ps }, false)
    | none => if r.op = 7 ∧ r.args.length = 2 then some (m, true) else none)
  | none => none
def Tm.shape (t : Tm) : Option (Ik × Bool) := shapeR (if t.op = 3 then rdHead t.args else none)
def shapeV : Option (Ik × Bool) → V
  | some (m, s) => .tup [m.ag, .d (B s), .d (B true)]
  | none => .tup [Ik.zero.ag, .d (B false), .d (B false)]
theorem rdHead_some {l : List Tm} {m : Ik} {r : Tm} (h : rdHead l = some (m, r)) : ∃ x0 x1 x2 x3 x4, l = [x0, x1, x2, x3, x4, r] ∧ m.parts = [] := by
  unfold rdHead at h
  split at h
  · split at h
    · cases h; exact ⟨_, _, _, _, _, rfl, rfl⟩
    · cases h
  · cases h
theorem parts_op {t : Tm} (h : ¬ t.op = 3) : t.parts = none := by unfold Tm.parts; rw [if_neg (fun k => h k.1)]
set_option maxHeartbeats 4000000 in
theorem e59 (t : Tm) (hl : ∀ u ∈ t.args, u.args.length < 2000000) : CV VP 22 [t.ag] [] = some ⟨shapeV t.shape, [], [], 0⟩ := by
  have h96 := e96 t
  unfold Tm.shape
  cases hr : (if t.op = 3 then rdHead t.args else none) with
  | none =>
    rw [hr] at h96
    obtain ⟨a, b, l⟩ := t
    simp only [Tm.ag, Tm.op_mk, Tm.val_mk, Tm.args_mk, rdV, shapeV, shapeR, Ik.zero, Ik.ag, Ik.cells] at *
    refine CV_run (vf := vf22) rfl rfl ?_
    rw [vf22_start]
    (repeat' (first
    | refine RX_seq ?_
    | refine RX_block ?_
    | ((first | refine RX_reg ?_ | refine RX_cond' ?_ | refine RX_draw0 ?_ | refine RX_draw rfl ?_ | refine RX_skip ?_ | refine RX_exit ?_ | refine RX_ret ?_); try (simp only [go_sem, Nat.max_zero, List.isEmpty_cons, Int.reduceToNat, Nat.reducePow, Int.reduceEq, Int.reduceNe, Int.reduceLT, Int.reduceLE, Nat.reduceAdd, Nat.reduceLeDiff, ↓reduceIte, Nat.reduceLT, Nat.reduceMul, Nat.reduceSub, reduceCtorEq, frzLoc, rowCells, vAppM, bne_self_eq_false, beq_self_eq_true, beq_true, beq_false, I, B, w, ibeq, ibne, bbeq, decide_eq_false_iff_not, decide_not, Bool.not_not, Decidable.not_not, Bool.not_eq_eq_eq_not, gt_iff_lt, ge_iff_le, and_false, false_and, or_self, and_self, vf22_res, vf22_keep, *]))
    | (refine ite_ngo (fun _ => ?_) (fun _ => ?_) <;> try (simp only [go_sem, Nat.max_zero, List.isEmpty_cons, Int.reduceToNat, Nat.reducePow, Int.reduceEq, Int.reduceNe, Int.reduceLT, Int.reduceLE, Nat.reduceAdd, Nat.reduceLeDiff, ↓reduceIte, Nat.reduceLT, Nat.reduceMul, Nat.reduceSub, reduceCtorEq, frzLoc, rowCells, vAppM, bne_self_eq_false, beq_self_eq_true, beq_true, beq_false, I, B, w, ibeq, ibne, bbeq, decide_eq_false_iff_not, decide_not, Bool.not_not, Decidable.not_not, Bool.not_eq_eq_eq_not, gt_iff_lt, ge_iff_le, and_false, false_and, or_self, and_self, vf22_res, vf22_keep, *]))
    | (refine ite_go (fun _ => ?_) (fun _ => ?_) <;> try (simp only [go_sem, Nat.max_zero, List.isEmpty_cons, Int.reduceToNat, Nat.reducePow, Int.reduceEq, Int.reduceNe, Int.reduceLT, Int.reduceLE, Nat.reduceAdd, Nat.reduceLeDiff, ↓reduceIte, Nat.reduceLT, Nat.reduceMul, Nat.reduceSub, reduceCtorEq, frzLoc, rowCells, vAppM, bne_self_eq_false, beq_self_eq_true, beq_true, beq_false, I, B, w, ibeq, ibne, bbeq, decide_eq_false_iff_not, decide_not, Bool.not_not, Decidable.not_not, Bool.not_eq_eq_eq_not, gt_iff_lt, ge_iff_le, and_false, false_and, or_self, and_self, vf22_res, vf22_keep, *]))))
  | some p =>
    obtain ⟨m, r⟩ := p
    rw [hr] at h96
    obtain ⟨a, b, l⟩ := t
    simp only [Tm.op_mk, Tm.args_mk] at hr
    by_cases ha : a = 3
    case neg => simp only [ha, if_false, reduceCtorEq] at hr
    subst ha
    simp only [if_true] at hr
    obtain ⟨x0, x1, x2, x3, x4, rfl, hm⟩ := rdHead_some hr
    clear hr
    have h97 := e97 r (hl r (by simp [Tm.args]))
    clear hl
    obtain ⟨k, si, sr, rp, ini, id, ps⟩ := m
    simp only at hm
    subst hm
    simp only [Tm.ag, Tm.op_mk, Tm.val_mk, Tm.args_mk, rdV, shapeR, Ik.ag, Ik.cells, List.map_cons, List.map_nil, Tm.row_eq] at h96 h97 ⊢
    by_cases h7 : r.op = 7
    · obtain ⟨ro, rv, ra⟩ := r
      simp only [Tm.op_mk, Tm.val_mk, Tm.args_mk] at h7 h96 h97 ⊢
      subst h7
      have hp := parts_op (t := .mk 7 rv ra) (by simp [Tm.op])
      rw [hp] at h97 ⊢
      simp only [true_and, partsV] at h97 ⊢
      by_cases h2 : (ra.length : Int) = 2
      · have h2n : ra.length = 2 := by omega
        simp only [h2n, if_true, shapeV, Ik.ag, Ik.cells, List.map_cons, List.map_nil]
        clear hp h97
        refine CV_run (vf := vf22) rfl rfl ?_
        rw [vf22_start]
        (repeat' (first
    | refine RX_seq ?_
    | refine RX_block ?_
    | ((first | refine RX_reg ?_ | refine RX_cond' ?_ | refine RX_draw0 ?_ | refine RX_draw rfl ?_ | refine RX_skip ?_ | refine RX_exit ?_ | refine RX_ret ?_); try (simp only [go_sem, Nat.max_zero, List.isEmpty_cons, Int.reduceToNat, Nat.reducePow, Int.reduceEq, Int.reduceNe, Int.reduceLT, Int.reduceLE, Nat.reduceAdd, Nat.reduceLeDiff, ↓reduceIte, Nat.reduceLT, Nat.reduceMul, Nat.reduceSub, reduceCtorEq, frzLoc, rowCells, vAppM, bne_self_eq_false, beq_self_eq_true, beq_true, beq_false, I, B, w, ibeq, ibne, bbeq, decide_eq_false_iff_not, decide_not, Bool.not_not, Decidable.not_not, Bool.not_eq_eq_eq_not, gt_iff_lt, ge_iff_le, and_false, false_and, or_self, and_self, vf22_res, vf22_keep, List.length_map, *]))
    | (refine ite_ngo (fun _ => ?_) (fun _ => ?_) <;> try (simp only [go_sem, Nat.max_zero, List.isEmpty_cons, Int.reduceToNat, Nat.reducePow, Int.reduceEq, Int.reduceNe, Int.reduceLT, Int.reduceLE, Nat.reduceAdd, Nat.reduceLeDiff, ↓reduceIte, Nat.reduceLT, Nat.reduceMul, Nat.reduceSub, reduceCtorEq, frzLoc, rowCells, vAppM, bne_self_eq_false, beq_self_eq_true, beq_true, beq_false, I, B, w, ibeq, ibne, bbeq, decide_eq_false_iff_not, decide_not, Bool.not_not, Decidable.not_not, Bool.not_eq_eq_eq_not, gt_iff_lt, ge_iff_le, and_false, false_and, or_self, and_self, vf22_res, vf22_keep, List.length_map, *]))
    | (refine ite_go (fun _ => ?_) (fun _ => ?_) <;> try (simp only [go_sem, Nat.max_zero, List.isEmpty_cons, Int.reduceToNat, Nat.reducePow, Int.reduceEq, Int.reduceNe, Int.reduceLT, Int.reduceLE, Nat.reduceAdd, Nat.reduceLeDiff, ↓reduceIte, Nat.reduceLT, Nat.reduceMul, Nat.reduceSub, reduceCtorEq, frzLoc, rowCells, vAppM, bne_self_eq_false, beq_self_eq_true, beq_true, beq_false, I, B, w, ibeq, ibne, bbeq, decide_eq_false_iff_not, decide_not, Bool.not_not, Decidable.not_not, Bool.not_eq_eq_eq_not, gt_iff_lt, ge_iff_le, and_false, false_and, or_self, and_self, vf22_res, vf22_keep, List.length_map, *]))))
      · have h2n : ¬ ra.length = 2 := by omega
        simp only [h2n, if_false, shapeV, Ik.zero, Ik.ag, Ik.cells, List.map_cons, List.map_nil]
        clear hp
        refine CV_run (vf := vf22) rfl rfl ?_
        rw [vf22_start]
        (repeat' (first
    | refine RX_seq ?_
    | refine RX_block ?_
    | ((first | refine RX_reg ?_ | refine RX_cond' ?_ | refine RX_draw0 ?_ | refine RX_draw rfl ?_ | refine RX_skip ?_ | refine RX_exit ?_ | refine RX_ret ?_); try (simp only [go_sem, Nat.max_zero, List.isEmpty_cons, Int.reduceToNat, Nat.reducePow, Int.reduceEq, Int.reduceNe, Int.reduceLT, Int.reduceLE, Nat.reduceAdd, Nat.reduceLeDiff, ↓reduceIte, Nat.reduceLT, Nat.reduceMul, Nat.reduceSub, reduceCtorEq, frzLoc, rowCells, vAppM, bne_self_eq_false, beq_self_eq_true, beq_true, beq_false, I, B, w, ibeq, ibne, bbeq, decide_eq_false_iff_not, decide_not, Bool.not_not, Decidable.not_not, Bool.not_eq_eq_eq_not, gt_iff_lt, ge_iff_le, and_false, false_and, or_self, and_self, vf22_res, vf22_keep, List.length_map, *]))
    | (refine ite_ngo (fun _ => ?_) (fun _ => ?_) <;> try (simp only [go_sem, Nat.max_zero, List.isEmpty_cons, Int.reduceToNat, Nat.reducePow, Int.reduceEq, Int.reduceNe, Int.reduceLT, Int.reduceLE, Nat.reduceAdd, Nat.reduceLeDiff, ↓reduceIte, Nat.reduceLT, Nat.reduceMul, Nat.reduceSub, reduceCtorEq, frzLoc, rowCells, vAppM, bne_self_eq_false, beq_self_eq_true, beq_true, beq_false, I, B, w, ibeq, ibne, bbeq, decide_eq_false_iff_not, decide_not, Bool.not_not, Decidable.not_not, Bool.not_eq_eq_eq_not, gt_iff_lt, ge_iff_le, and_false, false_and, or_self, and_self, vf22_res, vf22_keep, List.length_map, *]))
    | (refine ite_go (fun _ => ?_) (fun _ => ?_) <;> try (simp only [go_sem, Nat.max_zero, List.isEmpty_cons, Int.reduceToNat, Nat.reducePow, Int.reduceEq, Int.reduceNe, Int.reduceLT, Int.reduceLE, Nat.reduceAdd, Nat.reduceLeDiff, ↓reduceIte, Nat.reduceLT, Nat.reduceMul, Nat.reduceSub, reduceCtorEq, frzLoc, rowCells, vAppM, bne_self_eq_false, beq_self_eq_true, beq_true, beq_false, I, B, w, ibeq, ibne, bbeq, decide_eq_false_iff_not, decide_not, Bool.not_not, Decidable.not_not, Bool.not_eq_eq_eq_not, gt_iff_lt, ge_iff_le, and_false, false_and, or_self, and_self, vf22_res, vf22_keep, List.length_map, *]))))
    · simp only [h7, false_and, if_false]
      cases hp : r.parts with
      | none =>
        rw [hp] at h97
        simp only [partsV, shapeV, Ik.zero, Ik.ag, Ik.cells, List.map_cons, List.map_nil] at h97 ⊢
        clear hp
        refine CV_run (vf := vf22) rfl rfl ?_
        rw [vf22_start]
        (repeat' (first
    | refine RX_seq ?_
    | refine RX_block ?_
    | ((first | refine RX_reg ?_ | refine RX_cond' ?_ | refine RX_draw0 ?_ | refine RX_draw rfl ?_ | refine RX_skip ?_ | refine RX_exit ?_ | refine RX_ret ?_); try (simp only [go_sem, Nat.max_zero, List.isEmpty_cons, Int.reduceToNat, Nat.reducePow, Int.reduceEq, Int.reduceNe, Int.reduceLT, Int.reduceLE, Nat.reduceAdd, Nat.reduceLeDiff, ↓reduceIte, Nat.reduceLT, Nat.reduceMul, Nat.reduceSub, reduceCtorEq, frzLoc, rowCells, vAppM, bne_self_eq_false, beq_self_eq_true, beq_true, beq_false, I, B, w, ibeq, ibne, bbeq, decide_eq_false_iff_not, decide_not, Bool.not_not, Decidable.not_not, Bool.not_eq_eq_eq_not, gt_iff_lt, ge_iff_le, and_false, false_and, or_self, and_self, vf22_res, vf22_keep, List.length_map, *]))
    | (refine ite_ngo (fun _ => ?_) (fun _ => ?_) <;> try (simp only [go_sem, Nat.max_zero, List.isEmpty_cons, Int.reduceToNat, Nat.reducePow, Int.reduceEq, Int.reduceNe, Int.reduceLT, Int.reduceLE, Nat.reduceAdd, Nat.reduceLeDiff, ↓reduceIte, Nat.reduceLT, Nat.reduceMul, Nat.reduceSub, reduceCtorEq, frzLoc, rowCells, vAppM, bne_self_eq_false, beq_self_eq_true, beq_true, beq_false, I, B, w, ibeq, ibne, bbeq, decide_eq_false_iff_not, decide_not, Bool.not_not, Decidable.not_not, Bool.not_eq_eq_eq_not, gt_iff_lt, ge_iff_le, and_false, false_and, or_self, and_self, vf22_res, vf22_keep, List.length_map, *]))
    | (refine ite_go (fun _ => ?_) (fun _ => ?_) <;> try (simp only [go_sem, Nat.max_zero, List.isEmpty_cons, Int.reduceToNat, Nat.reducePow, Int.reduceEq, Int.reduceNe, Int.reduceLT, Int.reduceLE, Nat.reduceAdd, Nat.reduceLeDiff, ↓reduceIte, Nat.reduceLT, Nat.reduceMul, Nat.reduceSub, reduceCtorEq, frzLoc, rowCells, vAppM, bne_self_eq_false, beq_self_eq_true, beq_true, beq_false, I, B, w, ibeq, ibne, bbeq, decide_eq_false_iff_not, decide_not, Bool.not_not, Decidable.not_not, Bool.not_eq_eq_eq_not, gt_iff_lt, ge_iff_le, and_false, false_and, or_self, and_self, vf22_res, vf22_keep, List.length_map, *]))))
      | some ps =>
        rw [hp] at h97
        simp only [partsV, shapeV, Ik.zero, Ik.ag, Ik.cells, List.map_cons, List.map_nil] at h97 ⊢
        clear hp
        refine CV_run (vf := vf22) rfl rfl ?_
        rw [vf22_start]
        (repeat' (first
    | refine RX_seq ?_
    | refine RX_block ?_
    | ((first | refine RX_reg ?_ | refine RX_cond' ?_ | refine RX_draw0 ?_ | refine RX_draw rfl ?_ | refine RX_skip ?_ | refine RX_exit ?_ | refine RX_ret ?_); try (simp only [go_sem, Nat.max_zero, List.isEmpty_cons, Int.reduceToNat, Nat.reducePow, Int.reduceEq, Int.reduceNe, Int.reduceLT, Int.reduceLE, Nat.reduceAdd, Nat.reduceLeDiff, ↓reduceIte, Nat.reduceLT, Nat.reduceMul, Nat.reduceSub, reduceCtorEq, frzLoc, rowCells, vAppM, bne_self_eq_false, beq_self_eq_true, beq_true, beq_false, I, B, w, ibeq, ibne, bbeq, decide_eq_false_iff_not, decide_not, Bool.not_not, Decidable.not_not, Bool.not_eq_eq_eq_not, gt_iff_lt, ge_iff_le, and_false, false_and, or_self, and_self, vf22_res, vf22_keep, List.length_map, *]))
    | (refine ite_ngo (fun _ => ?_) (fun _ => ?_) <;> try (simp only [go_sem, Nat.max_zero, List.isEmpty_cons, Int.reduceToNat, Nat.reducePow, Int.reduceEq, Int.reduceNe, Int.reduceLT, Int.reduceLE, Nat.reduceAdd, Nat.reduceLeDiff, ↓reduceIte, Nat.reduceLT, Nat.reduceMul, Nat.reduceSub, reduceCtorEq, frzLoc, rowCells, vAppM, bne_self_eq_false, beq_self_eq_true, beq_true, beq_false, I, B, w, ibeq, ibne, bbeq, decide_eq_false_iff_not, decide_not, Bool.not_not, Decidable.not_not, Bool.not_eq_eq_eq_not, gt_iff_lt, ge_iff_le, and_false, false_and, or_self, and_self, vf22_res, vf22_keep, List.length_map, *]))
    | (refine ite_go (fun _ => ?_) (fun _ => ?_) <;> try (simp only [go_sem, Nat.max_zero, List.isEmpty_cons, Int.reduceToNat, Nat.reducePow, Int.reduceEq, Int.reduceNe, Int.reduceLT, Int.reduceLE, Nat.reduceAdd, Nat.reduceLeDiff, ↓reduceIte, Nat.reduceLT, Nat.reduceMul, Nat.reduceSub, reduceCtorEq, frzLoc, rowCells, vAppM, bne_self_eq_false, beq_self_eq_true, beq_true, beq_false, I, B, w, ibeq, ibne, bbeq, decide_eq_false_iff_not, decide_not, Bool.not_not, Decidable.not_not, Bool.not_eq_eq_eq_not, gt_iff_lt, ge_iff_le, and_false, false_and, or_self, and_self, vf22_res, vf22_keep, List.length_map, *]))))
end Go.Proofs.Ytjhfakhmflemmaa

namespace Go.Proofs.Ytjhfakhmflemmaa
open Go.VM
theorem e106g {rows : List (List D)} {n : Nat} {o v x : D} (hn : n < 2000000) (hl : n < rows.length) (hr : rows[n]? = some [o, v, x]) (id : Nat) : ∀ bl, CtxOk bl id →
    CV VP 89 [.ptr id 0] (gx bl id [.d (.sl rows), .d (I (n : Nat)), .d (B false)] []) = some ⟨.agg [.d o, .d v, .d x], gx bl id [.d (.sl rows), .d (I ((n + 1 : Nat) : Int)), .d (B false)] [], [], 0⟩ := by
  intro bl h
  have hid := h.lt
  have h1 : ¬ (rows.length : Int) ≤ (n : Int) := by omega
  have hwi := w_nat (i := n) (by omega)
  have hwd : IntKind.i64.wrap (((n + 1 : Nat) : Int) - 1) = (n : Int) := by rw [w_in (by omega) (by omega)]; omega
  refine CV_run (vf := vf89) rfl rfl ?_
  rw [vf89_start]
  (repeat (first
    | refine RX_seq ?_
    | refine RX_block ?_
    | ((first | refine RX_reg ?_ | refine RX_cond' ?_ | refine RX_draw0 ?_ | refine RX_draw rfl ?_ | refine RX_skip ?_ | refine RX_exit ?_ | refine RX_ret ?_); try (simp only [go_sem, Nat.max_zero, List.isEmpty_cons, Int.reduceToNat, Nat.reducePow, Int.reduceEq, Int.reduceNe, Int.reduceLT, Int.reduceLE, Nat.reduceAdd, Nat.reduceLeDiff, ↓reduceIte, Nat.reduceLT, Nat.reduceMul, Nat.reduceSub, reduceCtorEq, frzLoc, rowCells, vAppM, beq_iff_eq, bne_iff_ne, bne_self_eq_false, beq_self_eq_true, beq_true, beq_false, I, B, w, vf89_res, vf89_keep, gx_len, gx_app, gx_get h, gx_own0, gx_own, gx_set h, gx_setOwn0, gx_setOwn, gx_er h, gx_take, gx_all0 h, gx_all h, CtxOk.ne0 h, ge_iff_le, hid, h1, hwi, hwd, hl, hr, Nat.add_right_cancel_iff, Nat.lt_irrefl, cx_nlt, Nat.not_lt_zero, Nat.ne_of_lt hid, Nat.le_add_right]))))
  done
theorem e106b {rows : List (List D)} {n : Int} (id : Nat) : ∀ bl, CtxOk bl id →
    CV VP 89 [.ptr id 0] (gx bl id [.d (.sl rows), .d (I n), .d (B true)] []) = some ⟨.agg [.d (I 0), .d (I 0), .d (.sl [])], gx bl id [.d (.sl rows), .d (I n), .d (B true)] [], [], 0⟩ := by
  intro bl h
  have hid := h.lt
  refine CV_run (vf := vf89) rfl rfl ?_
  rw [vf89_start]
  (repeat (first
    | refine RX_seq ?_
    | refine RX_block ?_
    | ((first | refine RX_reg ?_ | refine RX_cond' ?_ | refine RX_draw0 ?_ | refine RX_draw rfl ?_ | refine RX_skip ?_ | refine RX_exit ?_ | refine RX_ret ?_); try (simp only [go_sem, Nat.max_zero, List.isEmpty_cons, Int.reduceToNat, Nat.reducePow, Int.reduceEq, Int.reduceNe, Int.reduceLT, Int.reduceLE, Nat.reduceAdd, Nat.reduceLeDiff, ↓reduceIte, Nat.reduceLT, Nat.reduceMul, Nat.reduceSub, reduceCtorEq, frzLoc, rowCells, vAppM, beq_iff_eq, bne_iff_ne, bne_self_eq_false, beq_self_eq_true, beq_true, beq_false, I, B, w, vf89_res, vf89_keep, gx_len, gx_app, gx_get h, gx_own0, gx_own, gx_set h, gx_setOwn0, gx_setOwn, gx_er h, gx_take, gx_all0 h, gx_all h, CtxOk.ne0 h, ge_iff_le, hid, Nat.add_right_cancel_iff, Nat.lt_irrefl, cx_nlt, Nat.not_lt_zero, Nat.ne_of_lt hid, Nat.le_add_right]))))
  done
theorem e87g {rows : List (List D)} {n : Nat} {o v : Int} {x : D} (hn : n < 2000000) (hl : n < rows.length) (hr : rows[n]? = some [I o, I v, x]) (id : Nat) : ∀ bl, CtxOk bl id →
    CV VP 60 [.ptr id 0] (gx bl id [.d (.sl rows), .d (I (n : Nat)), .d (B false)] []) = some ⟨.d (I v), gx bl id [.d (.sl rows), .d (I ((n + 1 : Nat) : Int)), .d (B (decide (¬ o = 1)))] [], [], 0⟩ := by
  intro bl h
  have hid := h.lt
  have h106 := e106g hn hl hr id bl h
  clear hl hr
  refine CV_run (vf := vf60) rfl rfl ?_
  rw [vf60_start]
  by_cases ho : o = 1
  · (repeat (first
    | refine RX_seq ?_
    | refine RX_block ?_
    | ((first | refine RX_reg ?_ | refine RX_cond' ?_ | refine RX_draw0 ?_ | refine RX_draw rfl ?_ | refine RX_skip ?_ | refine RX_exit ?_ | refine RX_ret ?_); try (simp only [go_sem, Nat.max_zero, List.isEmpty_cons, Int.reduceToNat, Nat.reducePow, Int.reduceEq, Int.reduceNe, Int.reduceLT, Int.reduceLE, Nat.reduceAdd, Nat.reduceLeDiff, ↓reduceIte, Nat.reduceLT, Nat.reduceMul, Nat.reduceSub, reduceCtorEq, frzLoc, rowCells, vAppM, beq_iff_eq, bne_iff_ne, bne_self_eq_false, beq_self_eq_true, beq_true, beq_false, I, B, w, vf60_res, vf60_keep, gx_len, gx_app, gx_get h, gx_own0, gx_own, gx_set h, gx_setOwn0, gx_setOwn, gx_er h, gx_take, gx_all0 h, gx_all h, CtxOk.ne0 h, hid, Nat.add_right_cancel_iff, Nat.lt_irrefl, cx_nlt, Nat.not_lt_zero, Nat.ne_of_lt hid, Nat.le_add_right, h106, ibne, ho, decide_not]))))
    done
  · (repeat (first
    | refine RX_seq ?_
    | refine RX_block ?_
    | ((first | refine RX_reg ?_ | refine RX_cond' ?_ | refine RX_draw0 ?_ | refine RX_draw rfl ?_ | refine RX_skip ?_ | refine RX_exit ?_ | refine RX_ret ?_); try (simp only [go_sem, Nat.max_zero, List.isEmpty_cons, Int.reduceToNat, Nat.reducePow, Int.reduceEq, Int.reduceNe, Int.reduceLT, Int.reduceLE, Nat.reduceAdd, Nat.reduceLeDiff, ↓reduceIte, Nat.reduceLT, Nat.reduceMul, Nat.reduceSub, reduceCtorEq, frzLoc, rowCells, vAppM, beq_iff_eq, bne_iff_ne, bne_self_eq_false, beq_self_eq_true, beq_true, beq_false, I, B, w, vf60_res, vf60_keep, gx_len, gx_app, gx_get h, gx_own0, gx_own, gx_set h, gx_setOwn0, gx_setOwn, gx_er h, gx_take, gx_all0 h, gx_all h, CtxOk.ne0 h, hid, Nat.add_right_cancel_iff, Nat.lt_irrefl, cx_nlt, Nat.not_lt_zero, Nat.ne_of_lt hid, Nat.le_add_right, h106, ibne, ho, decide_not]))))
    done
theorem e87b {rows : List (List D)} {n : Int} (id : Nat) : ∀ bl, CtxOk bl id →
    CV VP 60 [.ptr id 0] (gx bl id [.d (.sl rows), .d (I n), .d (B true)] []) = some ⟨.d (I 0), gx bl id [.d (.sl rows), .d (I n), .d (B true)] [], [], 0⟩ := by
  intro bl h
  have hid := h.lt
  have h106 := e106b (rows := rows) (n := n) id bl h
  have h01 : ¬ (0 : Int) = 1 := by decide
  refine CV_run (vf := vf60) rfl rfl ?_
  rw [vf60_start]
  (repeat (first
    | refine RX_seq ?_
    | refine RX_block ?_
    | ((first | refine RX_reg ?_ | refine RX_cond' ?_ | refine RX_draw0 ?_ | refine RX_draw rfl ?_ | refine RX_skip ?_ | refine RX_exit ?_ | refine RX_ret ?_); try (simp only [go_sem, Nat.max_zero, List.isEmpty_cons, Int.reduceToNat, Nat.reducePow, Int.reduceEq, Int.reduceNe, Int.reduceLT, Int.reduceLE, Nat.reduceAdd, Nat.reduceLeDiff, ↓reduceIte, Nat.reduceLT, Nat.reduceMul, Nat.reduceSub, reduceCtorEq, frzLoc, rowCells, vAppM, beq_iff_eq, bne_iff_ne, bne_self_eq_false, beq_self_eq_true, beq_true, beq_false, I, B, w, vf60_res, vf60_keep, gx_len, gx_app, gx_get h, gx_own0, gx_own, gx_set h, gx_setOwn0, gx_setOwn, gx_er h, gx_take, gx_all0 h, gx_all h, CtxOk.ne0 h, hid, Nat.add_right_cancel_iff, Nat.lt_irrefl, cx_nlt, Nat.not_lt_zero, Nat.ne_of_lt hid, Nat.le_add_right, h106, ibne, h01, decide_not]))))
  done
end Go.Proofs.Ytjhfakhmflemmaa

namespace Go.Proofs.Ytjhfakhmflemmaa
open Go.VM
theorem e58ctx (tc mc : List V) (h1 : V.erL tc = tc) (h2 : V.ltbL 3 tc = true) (h3 : V.erL mc = mc) (h4 : V.ltbL 3 mc = true) : CtxOk [tc, mc, []] 2 :=
  .of (by simp) (by simp [h1, h3, V.erL]) (by simp [h2, h4, V.ltbL])
set_option maxHeartbeats 4000000 in
theorem e58 (t : Tm) (hl : ∀ u ∈ t.args, u.args.length < 2000000) : CV VP 21 [t.ag] [] = some ⟨shapeV t.shape, [], [], 0⟩ := by
  unfold Tm.shape
  obtain ⟨a, b, l⟩ := t
  simp only [Tm.ag, Tm.op_mk, Tm.val_mk, Tm.args_mk] at hl ⊢
  by_cases ha : a = 3
  case neg =>
    simp only [ha, if_false, shapeR, shapeV, Ik.zero, Ik.ag, Ik.cells]
    refine CV_run (vf := vf21) rfl rfl ?_
    rw [vf21_start]
    (repeat' (first
    | refine RX_seq ?_
    | refine RX_block ?_
    | ((first | refine RX_reg ?_ | refine RX_cond' ?_ | refine RX_draw0 ?_ | refine RX_draw rfl ?_ | refine RX_skip ?_ | refine RX_exit ?_ | refine RX_ret ?_); try (simp only [go_sem, Nat.max_zero, List.isEmpty_cons, Int.reduceToNat, Nat.reducePow, Int.reduceEq, Int.reduceNe, Int.reduceLT, Int.reduceLE, Nat.reduceAdd, Nat.reduceLeDiff, ↓reduceIte, Nat.reduceLT, Nat.reduceMul, Nat.reduceSub, reduceCtorEq, frzLoc, rowCells, vAppM, bne_self_eq_false, beq_self_eq_true, beq_true, beq_false, I, B, w, ibeq, ibne, bbeq, decide_eq_false_iff_not, decide_not, Bool.not_not, Decidable.not_not, Bool.not_eq_eq_eq_not, gt_iff_lt, ge_iff_le, and_false, false_and, or_self, and_self, vf21_res, vf21_keep, *]))
    | (refine ite_ngo (fun _ => ?_) (fun _ => ?_) <;> try (simp only [go_sem, Nat.max_zero, List.isEmpty_cons, Int.reduceToNat, Nat.reducePow, Int.reduceEq, Int.reduceNe, Int.reduceLT, Int.reduceLE, Nat.reduceAdd, Nat.reduceLeDiff, ↓reduceIte, Nat.reduceLT, Nat.reduceMul, Nat.reduceSub, reduceCtorEq, frzLoc, rowCells, vAppM, bne_self_eq_false, beq_self_eq_true, beq_true, beq_false, I, B, w, ibeq, ibne, bbeq, decide_eq_false_iff_not, decide_not, Bool.not_not, Decidable.not_not, Bool.not_eq_eq_eq_not, gt_iff_lt, ge_iff_le, and_false, false_and, or_self, and_self, vf21_res, vf21_keep, *]))
    | (refine ite_go (fun _ => ?_) (fun _ => ?_) <;> try (simp only [go_sem, Nat.max_zero, List.isEmpty_cons, Int.reduceToNat, Nat.reducePow, Int.reduceEq, Int.reduceNe, Int.reduceLT, Int.reduceLE, Nat.reduceAdd, Nat.reduceLeDiff, ↓reduceIte, Nat.reduceLT, Nat.reduceMul, Nat.reduceSub, reduceCtorEq, frzLoc, rowCells, vAppM, bne_self_eq_false, beq_self_eq_true, beq_true, beq_false, I, B, w, ibeq, ibne, bbeq, decide_eq_false_iff_not, decide_not, Bool.not_not, Decidable.not_not, Bool.not_eq_eq_eq_not, gt_iff_lt, ge_iff_le, and_false, false_and, or_self, and_self, vf21_res, vf21_keep, *]))))
  subst ha
  simp only [if_true]
  by_cases hlen : l.length = 6
  case neg =>
    rw [rdHead_len hlen]
    simp only [shapeR, shapeV, Ik.zero, Ik.ag, Ik.cells]
    have hl2 : ¬ (l.length : Int) = 6 := by omega
    refine CV_run (vf := vf21) rfl rfl ?_
    rw [vf21_start]
    (repeat' (first
    | refine RX_seq ?_
    | refine RX_block ?_
    | ((first | refine RX_reg ?_ | refine RX_cond' ?_ | refine RX_draw0 ?_ | refine RX_draw rfl ?_ | refine RX_skip ?_ | refine RX_exit ?_ | refine RX_ret ?_); try (simp only [go_sem, Nat.max_zero, List.isEmpty_cons, Int.reduceToNat, Nat.reducePow, Int.reduceEq, Int.reduceNe, Int.reduceLT, Int.reduceLE, Nat.reduceAdd, Nat.reduceLeDiff, ↓reduceIte, Nat.reduceLT, Nat.reduceMul, Nat.reduceSub, reduceCtorEq, frzLoc, rowCells, vAppM, bne_self_eq_false, beq_self_eq_true, beq_true, beq_false, I, B, w, ibeq, ibne, bbeq, decide_eq_false_iff_not, decide_not, Bool.not_not, Decidable.not_not, Bool.not_eq_eq_eq_not, gt_iff_lt, ge_iff_le, and_false, false_and, or_self, and_self, vf21_res, vf21_keep, List.length_map, *]))
    | (refine ite_ngo (fun _ => ?_) (fun _ => ?_) <;> try (simp only [go_sem, Nat.max_zero, List.isEmpty_cons, Int.reduceToNat, Nat.reducePow, Int.reduceEq, Int.reduceNe, Int.reduceLT, Int.reduceLE, Nat.reduceAdd, Nat.reduceLeDiff, ↓reduceIte, Nat.reduceLT, Nat.reduceMul, Nat.reduceSub, reduceCtorEq, frzLoc, rowCells, vAppM, bne_self_eq_false, beq_self_eq_true, beq_true, beq_false, I, B, w, ibeq, ibne, bbeq, decide_eq_false_iff_not, decide_not, Bool.not_not, Decidable.not_not, Bool.not_eq_eq_eq_not, gt_iff_lt, ge_iff_le, and_false, false_and, or_self, and_self, vf21_res, vf21_keep, List.length_map, *]))
    | (refine ite_go (fun _ => ?_) (fun _ => ?_) <;> try (simp only [go_sem, Nat.max_zero, List.isEmpty_cons, Int.reduceToNat, Nat.reducePow, Int.reduceEq, Int.reduceNe, Int.reduceLT, Int.reduceLE, Nat.reduceAdd, Nat.reduceLeDiff, ↓reduceIte, Nat.reduceLT, Nat.reduceMul, Nat.reduceSub, reduceCtorEq, frzLoc, rowCells, vAppM, bne_self_eq_false, beq_self_eq_true, beq_true, beq_false, I, B, w, ibeq, ibne, bbeq, decide_eq_false_iff_not, decide_not, Bool.not_not, Decidable.not_not, Bool.not_eq_eq_eq_not, gt_iff_lt, ge_iff_le, and_false, false_and, or_self, and_self, vf21_res, vf21_keep, List.length_map, *]))))
  obtain ⟨x0, x1, x2, x3, x4, r, rfl⟩ := list6 l hlen
  have h95 := e95 r (hl r (by simp))
  clear hlen hl
  simp only [List.map_cons, List.map_nil, Tm.row_eq, Tm.ag] at h95 ⊢
  generalize hrows : [[I x0.op, I x0.val, D.sl (x0.args.map Tm.row)], [I x1.op, I x1.val, .sl (x1.args.map Tm.row)], [I x2.op, I x2.val, .sl (x2.args.map Tm.row)], [I x3.op, I x3.val, .sl (x3.args.map Tm.row)], [I x4.op, I x4.val, .sl (x4.args.map Tm.row)], [I r.op, I r.val, .sl (r.args.map Tm.row)]] = rows
  have hrl : rows.length = 6 := by rw [← hrows]; rfl
  have hr5 : rows[5]? = some [I r.op, I r.val, .sl (r.args.map Tm.row)] := by rw [← hrows]; rfl
  have c (mc : List V) (h3 : V.erL mc = mc) (h4 : V.ltbL 3 mc = true) := e58ctx [.d (I 3), .d (I b), .d (.sl rows)] mc rfl rfl h3 h4
  have q0 : ∀ ka kb kc ke : Int, CV VP 60 [.ptr 2 0] [[.d (I 3), .d (I b), .d (.sl rows)], [.d (I ka), .d (I kb), .d (I kc), .d (B false), .d (B false), .d (I ke), .d (.sl [])], [.d (.sl rows), .d (I 0), .d (B false)]] = some ⟨.d (I x0.val), [[.d (I 3), .d (I b), .d (.sl rows)], [.d (I ka), .d (I kb), .d (I kc), .d (B false), .d (B false), .d (I ke), .d (.sl [])], [.d (.sl rows), .d (I 1), .d (B (decide (¬ x0.op = 1)))]], [], 0⟩ := fun ka kb kc ke => e87g (n := 0) (by decide) (by rw [hrl]; decide) (by rw [← hrows]; rfl) 2 _ (c _ rfl rfl)
  have q1 : ∀ ka kb kc ke : Int, CV VP 60 [.ptr 2 0] [[.d (I 3), .d (I b), .d (.sl rows)], [.d (I ka), .d (I kb), .d (I kc), .d (B false), .d (B false), .d (I ke), .d (.sl [])], [.d (.sl rows), .d (I 1), .d (B false)]] = some ⟨.d (I x1.val), [[.d (I 3), .d (I b), .d (.sl rows)], [.d (I ka), .d (I kb), .d (I kc), .d (B false), .d (B false), .d (I ke), .d (.sl [])], [.d (.sl rows), .d (I 2), .d (B (decide (¬ x1.op = 1)))]], [], 0⟩ := fun ka kb kc ke => e87g (n := 1) (by decide) (by rw [hrl]; decide) (by rw [← hrows]; rfl) 2 _ (c _ rfl rfl)
  have q2 : ∀ ka kb kc ke : Int, CV VP 60 [.ptr 2 0] [[.d (I 3), .d (I b), .d (.sl rows)], [.d (I ka), .d (I kb), .d (I kc), .d (B false), .d (B false), .d (I ke), .d (.sl [])], [.d (.sl rows), .d (I 2), .d (B false)]] = some ⟨.d (I x2.val), [[.d (I 3), .d (I b), .d (.sl rows)], [.d (I ka), .d (I kb), .d (I kc), .d (B false), .d (B false), .d (I ke), .d (.sl [])], [.d (.sl rows), .d (I 3), .d (B (decide (¬ x2.op = 1)))]], [], 0⟩ := fun ka kb kc ke => e87g (n := 2) (by decide) (by rw [hrl]; decide) (by rw [← hrows]; rfl) 2 _ (c _ rfl rfl)
  have q3 : ∀ ka kb kc ke : Int, CV VP 60 [.ptr 2 0] [[.d (I 3), .d (I b), .d (.sl rows)], [.d (I ka), .d (I kb), .d (I kc), .d (B false), .d (B false), .d (I ke), .d (.sl [])], [.d (.sl rows), .d (I 3), .d (B false)]] = some ⟨.d (I x3.val), [[.d (I 3), .d (I b), .d (.sl rows)], [.d (I ka), .d (I kb), .d (I kc), .d (B false), .d (B false), .d (I ke), .d (.sl [])], [.d (.sl rows), .d (I 4), .d (B (decide (¬ x3.op = 1)))]], [], 0⟩ := fun ka kb kc ke => e87g (n := 3) (by decide) (by rw [hrl]; decide) (by rw [← hrows]; rfl) 2 _ (c _ rfl rfl)
  have q4 : ∀ ka kb kc ke : Int, CV VP 60 [.ptr 2 0] [[.d (I 3), .d (I b), .d (.sl rows)], [.d (I ka), .d (I kb), .d (I kc), .d (B false), .d (B false), .d (I ke), .d (.sl [])], [.d (.sl rows), .d (I 4), .d (B false)]] = some ⟨.d (I x4.val), [[.d (I 3), .d (I b), .d (.sl rows)], [.d (I ka), .d (I kb), .d (I kc), .d (B false), .d (B false), .d (I ke), .d (.sl [])], [.d (.sl rows), .d (I 5), .d (B (decide (¬ x4.op = 1)))]], [], 0⟩ := fun ka kb kc ke => e87g (n := 4) (by decide) (by rw [hrl]; decide) (by rw [← hrows]; rfl) 2 _ (c _ rfl rfl)
  have qb : ∀ ka kb kc ke n : Int, CV VP 60 [.ptr 2 0] [[.d (I 3), .d (I b), .d (.sl rows)], [.d (I ka), .d (I kb), .d (I kc), .d (B false), .d (B false), .d (I ke), .d (.sl [])], [.d (.sl rows), .d (I n), .d (B true)]] = some ⟨.d (I 0), [[.d (I 3), .d (I b), .d (.sl rows)], [.d (I ka), .d (I kb), .d (I kc), .d (B false), .d (B false), .d (I ke), .d (.sl [])], [.d (.sl rows), .d (I n), .d (B true)]], [], 0⟩ := fun ka kb kc ke n => e87b 2 _ (c _ rfl rfl)
  clear hrows c
  simp only [rdHead]
  by_cases h0 : x0.op = 1
  case neg =>
    refine CV_run (vf := vf21) rfl rfl ?_
    rw [vf21_start]
    (repeat' (first
    | refine RX_seq ?_
    | refine RX_block ?_
    | ((first | refine RX_reg ?_ | refine RX_cond' ?_ | refine RX_draw0 ?_ | refine RX_draw rfl ?_ | refine RX_skip ?_ | refine RX_exit ?_ | refine RX_ret ?_); try (simp only [go_sem, Nat.max_zero, List.isEmpty_cons, Int.reduceToNat, Nat.reducePow, Int.reduceEq, Int.reduceNe, Int.reduceLT, Int.reduceLE, Nat.reduceAdd, Nat.reduceLeDiff, ↓reduceIte, Nat.reduceLT, Nat.reduceMul, Nat.reduceSub, reduceCtorEq, frzLoc, rowCells, vAppM, bne_self_eq_false, beq_self_eq_true, beq_true, beq_false, I, B, w, ibeq, ibne, bbeq, decide_eq_false_iff_not, decide_not, Bool.not_not, Decidable.not_not, Bool.not_eq_eq_eq_not, gt_iff_lt, ge_iff_le, and_false, false_and, or_self, and_self, vf21_res, vf21_keep, IntKind.bits, shapeR, shapeV, Ik.zero, Ik.ag, Ik.cells, List.map_cons, List.map_nil, *]))
    | (refine ite_ngo (fun _ => ?_) (fun _ => ?_) <;> try (simp only [go_sem, Nat.max_zero, List.isEmpty_cons, Int.reduceToNat, Nat.reducePow, Int.reduceEq, Int.reduceNe, Int.reduceLT, Int.reduceLE, Nat.reduceAdd, Nat.reduceLeDiff, ↓reduceIte, Nat.reduceLT, Nat.reduceMul, Nat.reduceSub, reduceCtorEq, frzLoc, rowCells, vAppM, bne_self_eq_false, beq_self_eq_true, beq_true, beq_false, I, B, w, ibeq, ibne, bbeq, decide_eq_false_iff_not, decide_not, Bool.not_not, Decidable.not_not, Bool.not_eq_eq_eq_not, gt_iff_lt, ge_iff_le, and_false, false_and, or_self, and_self, vf21_res, vf21_keep, IntKind.bits, shapeR, shapeV, Ik.zero, Ik.ag, Ik.cells, List.map_cons, List.map_nil, *]))
    | (refine ite_go (fun _ => ?_) (fun _ => ?_) <;> try (simp only [go_sem, Nat.max_zero, List.isEmpty_cons, Int.reduceToNat, Nat.reducePow, Int.reduceEq, Int.reduceNe, Int.reduceLT, Int.reduceLE, Nat.reduceAdd, Nat.reduceLeDiff, ↓reduceIte, Nat.reduceLT, Nat.reduceMul, Nat.reduceSub, reduceCtorEq, frzLoc, rowCells, vAppM, bne_self_eq_false, beq_self_eq_true, beq_true, beq_false, I, B, w, ibeq, ibne, bbeq, decide_eq_false_iff_not, decide_not, Bool.not_not, Decidable.not_not, Bool.not_eq_eq_eq_not, gt_iff_lt, ge_iff_le, and_false, false_and, or_self, and_self, vf21_res, vf21_keep, IntKind.bits, shapeR, shapeV, Ik.zero, Ik.ag, Ik.cells, List.map_cons, List.map_nil, *]))))
  by_cases h1 : x1.op = 1
  case neg =>
    refine CV_run (vf := vf21) rfl rfl ?_
    rw [vf21_start]
    (repeat' (first
    | refine RX_seq ?_
    | refine RX_block ?_
    | ((first | refine RX_reg ?_ | refine RX_cond' ?_ | refine RX_draw0 ?_ | refine RX_draw rfl ?_ | refine RX_skip ?_ | refine RX_exit ?_ | refine RX_ret ?_); try (simp only [go_sem, Nat.max_zero, List.isEmpty_cons, Int.reduceToNat, Nat.reducePow, Int.reduceEq, Int.reduceNe, Int.reduceLT, Int.reduceLE, Nat.reduceAdd, Nat.reduceLeDiff, ↓reduceIte, Nat.reduceLT, Nat.reduceMul, Nat.reduceSub, reduceCtorEq, frzLoc, rowCells, vAppM, bne_self_eq_false, beq_self_eq_true, beq_true, beq_false, I, B, w, ibeq, ibne, bbeq, decide_eq_false_iff_not, decide_not, Bool.not_not, Decidable.not_not, Bool.not_eq_eq_eq_not, gt_iff_lt, ge_iff_le, and_false, false_and, or_self, and_self, vf21_res, vf21_keep, IntKind.bits, shapeR, shapeV, Ik.zero, Ik.ag, Ik.cells, List.map_cons, List.map_nil, *]))
    | (refine ite_ngo (fun _ => ?_) (fun _ => ?_) <;> try (simp only [go_sem, Nat.max_zero, List.isEmpty_cons, Int.reduceToNat, Nat.reducePow, Int.reduceEq, Int.reduceNe, Int.reduceLT, Int.reduceLE, Nat.reduceAdd, Nat.reduceLeDiff, ↓reduceIte, Nat.reduceLT, Nat.reduceMul, Nat.reduceSub, reduceCtorEq, frzLoc, rowCells, vAppM, bne_self_eq_false, beq_self_eq_true, beq_true, beq_false, I, B, w, ibeq, ibne, bbeq, decide_eq_false_iff_not, decide_not, Bool.not_not, Decidable.not_not, Bool.not_eq_eq_eq_not, gt_iff_lt, ge_iff_le, and_false, false_and, or_self, and_self, vf21_res, vf21_keep, IntKind.bits, shapeR, shapeV, Ik.zero, Ik.ag, Ik.cells, List.map_cons, List.map_nil, *]))
    | (refine ite_go (fun _ => ?_) (fun _ => ?_) <;> try (simp only [go_sem, Nat.max_zero, List.isEmpty_cons, Int.reduceToNat, Nat.reducePow, Int.reduceEq, Int.reduceNe, Int.reduceLT, Int.reduceLE, Nat.reduceAdd, Nat.reduceLeDiff, ↓reduceIte, Nat.reduceLT, Nat.reduceMul, Nat.reduceSub, reduceCtorEq, frzLoc, rowCells, vAppM, bne_self_eq_false, beq_self_eq_true, beq_true, beq_false, I, B, w, ibeq, ibne, bbeq, decide_eq_false_iff_not, decide_not, Bool.not_not, Decidable.not_not, Bool.not_eq_eq_eq_not, gt_iff_lt, ge_iff_le, and_false, false_and, or_self, and_self, vf21_res, vf21_keep, IntKind.bits, shapeR, shapeV, Ik.zero, Ik.ag, Ik.cells, List.map_cons, List.map_nil, *]))))
  by_cases h2 : x2.op = 1
  case neg =>
    refine CV_run (vf := vf21) rfl rfl ?_
    rw [vf21_start]
    (repeat' (first
    | refine RX_seq ?_
    | refine RX_block ?_
    | ((first | refine RX_reg ?_ | refine RX_cond' ?_ | refine RX_draw0 ?_ | refine RX_draw rfl ?_ | refine RX_skip ?_ | refine RX_exit ?_ | refine RX_ret ?_); try (simp only [go_sem, Nat.max_zero, List.isEmpty_cons, Int.reduceToNat, Nat.reducePow, Int.reduceEq, Int.reduceNe, Int.reduceLT, Int.reduceLE, Nat.reduceAdd, Nat.reduceLeDiff, ↓reduceIte, Nat.reduceLT, Nat.reduceMul, Nat.reduceSub, reduceCtorEq, frzLoc, rowCells, vAppM, bne_self_eq_false, beq_self_eq_true, beq_true, beq_false, I, B, w, ibeq, ibne, bbeq, decide_eq_false_iff_not, decide_not, Bool.not_not, Decidable.not_not, Bool.not_eq_eq_eq_not, gt_iff_lt, ge_iff_le, and_false, false_and, or_self, and_self, vf21_res, vf21_keep, IntKind.bits, shapeR, shapeV, Ik.zero, Ik.ag, Ik.cells, List.map_cons, List.map_nil, *]))
    | (refine ite_ngo (fun _ => ?_) (fun _ => ?_) <;> try (simp only [go_sem, Nat.max_zero, List.isEmpty_cons, Int.reduceToNat, Nat.reducePow, Int.reduceEq, Int.reduceNe, Int.reduceLT, Int.reduceLE, Nat.reduceAdd, Nat.reduceLeDiff, ↓reduceIte, Nat.reduceLT, Nat.reduceMul, Nat.reduceSub, reduceCtorEq, frzLoc, rowCells, vAppM, bne_self_eq_false, beq_self_eq_true, beq_true, beq_false, I, B, w, ibeq, ibne, bbeq, decide_eq_false_iff_not, decide_not, Bool.not_not, Decidable.not_not, Bool.not_eq_eq_eq_not, gt_iff_lt, ge_iff_le, and_false, false_and, or_self, and_self, vf21_res, vf21_keep, IntKind.bits, shapeR, shapeV, Ik.zero, Ik.ag, Ik.cells, List.map_cons, List.map_nil, *]))
    | (refine ite_go (fun _ => ?_) (fun _ => ?_) <;> try (simp only [go_sem, Nat.max_zero, List.isEmpty_cons, Int.reduceToNat, Nat.reducePow, Int.reduceEq, Int.reduceNe, Int.reduceLT, Int.reduceLE, Nat.reduceAdd, Nat.reduceLeDiff, ↓reduceIte, Nat.reduceLT, Nat.reduceMul, Nat.reduceSub, reduceCtorEq, frzLoc, rowCells, vAppM, bne_self_eq_false, beq_self_eq_true, beq_true, beq_false, I, B, w, ibeq, ibne, bbeq, decide_eq_false_iff_not, decide_not, Bool.not_not, Decidable.not_not, Bool.not_eq_eq_eq_not, gt_iff_lt, ge_iff_le, and_false, false_and, or_self, and_self, vf21_res, vf21_keep, IntKind.bits, shapeR, shapeV, Ik.zero, Ik.ag, Ik.cells, List.map_cons, List.map_nil, *]))))
  by_cases h3 : x3.op = 1
  case neg =>
    refine CV_run (vf := vf21) rfl rfl ?_
    rw [vf21_start]
    (repeat' (first
    | refine RX_seq ?_
    | refine RX_block ?_
    | ((first | refine RX_reg ?_ | refine RX_cond' ?_ | refine RX_draw0 ?_ | refine RX_draw rfl ?_ | refine RX_skip ?_ | refine RX_exit ?_ | refine RX_ret ?_); try (simp only [go_sem, Nat.max_zero, List.isEmpty_cons, Int.reduceToNat, Nat.reducePow, Int.reduceEq, Int.reduceNe, Int.reduceLT, Int.reduceLE, Nat.reduceAdd, Nat.reduceLeDiff, ↓reduceIte, Nat.reduceLT, Nat.reduceMul, Nat.reduceSub, reduceCtorEq, frzLoc, rowCells, vAppM, bne_self_eq_false, beq_self_eq_true, beq_true, beq_false, I, B, w, ibeq, ibne, bbeq, decide_eq_false_iff_not, decide_not, Bool.not_not, Decidable.not_not, Bool.not_eq_eq_eq_not, gt_iff_lt, ge_iff_le, and_false, false_and, or_self, and_self, vf21_res, vf21_keep, IntKind.bits, shapeR, shapeV, Ik.zero, Ik.ag, Ik.cells, List.map_cons, List.map_nil, *]))
    | (refine ite_ngo (fun _ => ?_) (fun _ => ?_) <;> try (simp only [go_sem, Nat.max_zero, List.isEmpty_cons, Int.reduceToNat, Nat.reducePow, Int.reduceEq, Int.reduceNe, Int.reduceLT, Int.reduceLE, Nat.reduceAdd, Nat.reduceLeDiff, ↓reduceIte, Nat.reduceLT, Nat.reduceMul, Nat.reduceSub, reduceCtorEq, frzLoc, rowCells, vAppM, bne_self_eq_false, beq_self_eq_true, beq_true, beq_false, I, B, w, ibeq, ibne, bbeq, decide_eq_false_iff_not, decide_not, Bool.not_not, Decidable.not_not, Bool.not_eq_eq_eq_not, gt_iff_lt, ge_iff_le, and_false, false_and, or_self, and_self, vf21_res, vf21_keep, IntKind.bits, shapeR, shapeV, Ik.zero, Ik.ag, Ik.cells, List.map_cons, List.map_nil, *]))
    | (refine ite_go (fun _ => ?_) (fun _ => ?_) <;> try (simp only [go_sem, Nat.max_zero, List.isEmpty_cons, Int.reduceToNat, Nat.reducePow, Int.reduceEq, Int.reduceNe, Int.reduceLT, Int.reduceLE, Nat.reduceAdd, Nat.reduceLeDiff, ↓reduceIte, Nat.reduceLT, Nat.reduceMul, Nat.reduceSub, reduceCtorEq, frzLoc, rowCells, vAppM, bne_self_eq_false, beq_self_eq_true, beq_true, beq_false, I, B, w, ibeq, ibne, bbeq, decide_eq_false_iff_not, decide_not, Bool.not_not, Decidable.not_not, Bool.not_eq_eq_eq_not, gt_iff_lt, ge_iff_le, and_false, false_and, or_self, and_self, vf21_res, vf21_keep, IntKind.bits, shapeR, shapeV, Ik.zero, Ik.ag, Ik.cells, List.map_cons, List.map_nil, *]))))
  by_cases h4 : x4.op = 1
  case neg =>
    refine CV_run (vf := vf21) rfl rfl ?_
    rw [vf21_start]
    (repeat' (first
    | refine RX_seq ?_
    | refine RX_block ?_
    | ((first | refine RX_reg ?_ | refine RX_cond' ?_ | refine RX_draw0 ?_ | refine RX_draw rfl ?_ | refine RX_skip ?_ | refine RX_exit ?_ | refine RX_ret ?_); try (simp only [go_sem, Nat.max_zero, List.isEmpty_cons, Int.reduceToNat, Nat.reducePow, Int.reduceEq, Int.reduceNe, Int.reduceLT, Int.reduceLE, Nat.reduceAdd, Nat.reduceLeDiff, ↓reduceIte, Nat.reduceLT, Nat.reduceMul, Nat.reduceSub, reduceCtorEq, frzLoc, rowCells, vAppM, bne_self_eq_false, beq_self_eq_true, beq_true, beq_false, I, B, w, ibeq, ibne, bbeq, decide_eq_false_iff_not, decide_not, Bool.not_not, Decidable.not_not, Bool.not_eq_eq_eq_not, gt_iff_lt, ge_iff_le, and_false, false_and, or_self, and_self, vf21_res, vf21_keep, IntKind.bits, shapeR, shapeV, Ik.zero, Ik.ag, Ik.cells, List.map_cons, List.map_nil, *]))
    | (refine ite_ngo (fun _ => ?_) (fun _ => ?_) <;> try (simp only [go_sem, Nat.max_zero, List.isEmpty_cons, Int.reduceToNat, Nat.reducePow, Int.reduceEq, Int.reduceNe, Int.reduceLT, Int.reduceLE, Nat.reduceAdd, Nat.reduceLeDiff, ↓reduceIte, Nat.reduceLT, Nat.reduceMul, Nat.reduceSub, reduceCtorEq, frzLoc, rowCells, vAppM, bne_self_eq_false, beq_self_eq_true, beq_true, beq_false, I, B, w, ibeq, ibne, bbeq, decide_eq_false_iff_not, decide_not, Bool.not_not, Decidable.not_not, Bool.not_eq_eq_eq_not, gt_iff_lt, ge_iff_le, and_false, false_and, or_self, and_self, vf21_res, vf21_keep, IntKind.bits, shapeR, shapeV, Ik.zero, Ik.ag, Ik.cells, List.map_cons, List.map_nil, *]))
    | (refine ite_go (fun _ => ?_) (fun _ => ?_) <;> try (simp only [go_sem, Nat.max_zero, List.isEmpty_cons, Int.reduceToNat, Nat.reducePow, Int.reduceEq, Int.reduceNe, Int.reduceLT, Int.reduceLE, Nat.reduceAdd, Nat.reduceLeDiff, ↓reduceIte, Nat.reduceLT, Nat.reduceMul, Nat.reduceSub, reduceCtorEq, frzLoc, rowCells, vAppM, bne_self_eq_false, beq_self_eq_true, beq_true, beq_false, I, B, w, ibeq, ibne, bbeq, decide_eq_false_iff_not, decide_not, Bool.not_not, Decidable.not_not, Bool.not_eq_eq_eq_not, gt_iff_lt, ge_iff_le, and_false, false_and, or_self, and_self, vf21_res, vf21_keep, IntKind.bits, shapeR, shapeV, Ik.zero, Ik.ag, Ik.cells, List.map_cons, List.map_nil, *]))))
  have hc : ((r.args.length : Int) = 2) = (r.args.length = 2) := by apply propext; omega
  cases hp : r.parts with
  | none =>
    rw [hp] at h95
    simp only [partsV] at h95
    refine CV_run (vf := vf21) rfl rfl ?_
    rw [vf21_start]
    (repeat' (first
    | refine RX_seq ?_
    | refine RX_block ?_
    | ((first | refine RX_reg ?_ | refine RX_cond' ?_ | refine RX_draw0 ?_ | refine RX_draw rfl ?_ | refine RX_skip ?_ | refine RX_exit ?_ | refine RX_ret ?_); try (simp only [go_sem, Nat.max_zero, List.isEmpty_cons, Int.reduceToNat, Nat.reducePow, Int.reduceEq, Int.reduceNe, Int.reduceLT, Int.reduceLE, Nat.reduceAdd, Nat.reduceLeDiff, ↓reduceIte, Nat.reduceLT, Nat.reduceMul, Nat.reduceSub, reduceCtorEq, frzLoc, rowCells, vAppM, bne_self_eq_false, beq_self_eq_true, beq_true, beq_false, I, B, w, ibeq, ibne, bbeq, decide_eq_false_iff_not, decide_not, Bool.not_not, Decidable.not_not, Bool.not_eq_eq_eq_not, gt_iff_lt, ge_iff_le, and_false, false_and, or_self, and_self, vf21_res, vf21_keep, List.length_map, IntKind.bits, shapeR, shapeV, Ik.zero, Ik.ag, Ik.cells, List.map_cons, List.map_nil, *]))
    | (refine ite_ngo (fun _ => ?_) (fun _ => ?_) <;> try (simp only [go_sem, Nat.max_zero, List.isEmpty_cons, Int.reduceToNat, Nat.reducePow, Int.reduceEq, Int.reduceNe, Int.reduceLT, Int.reduceLE, Nat.reduceAdd, Nat.reduceLeDiff, ↓reduceIte, Nat.reduceLT, Nat.reduceMul, Nat.reduceSub, reduceCtorEq, frzLoc, rowCells, vAppM, bne_self_eq_false, beq_self_eq_true, beq_true, beq_false, I, B, w, ibeq, ibne, bbeq, decide_eq_false_iff_not, decide_not, Bool.not_not, Decidable.not_not, Bool.not_eq_eq_eq_not, gt_iff_lt, ge_iff_le, and_false, false_and, or_self, and_self, vf21_res, vf21_keep, List.length_map, IntKind.bits, shapeR, shapeV, Ik.zero, Ik.ag, Ik.cells, List.map_cons, List.map_nil, *]))
    | (refine ite_go (fun _ => ?_) (fun _ => ?_) <;> try (simp only [go_sem, Nat.max_zero, List.isEmpty_cons, Int.reduceToNat, Nat.reducePow, Int.reduceEq, Int.reduceNe, Int.reduceLT, Int.reduceLE, Nat.reduceAdd, Nat.reduceLeDiff, ↓reduceIte, Nat.reduceLT, Nat.reduceMul, Nat.reduceSub, reduceCtorEq, frzLoc, rowCells, vAppM, bne_self_eq_false, beq_self_eq_true, beq_true, beq_false, I, B, w, ibeq, ibne, bbeq, decide_eq_false_iff_not, decide_not, Bool.not_not, Decidable.not_not, Bool.not_eq_eq_eq_not, gt_iff_lt, ge_iff_le, and_false, false_and, or_self, and_self, vf21_res, vf21_keep, List.length_map, IntKind.bits, shapeR, shapeV, Ik.zero, Ik.ag, Ik.cells, List.map_cons, List.map_nil, *]))))
    all_goals (have hf : x3.val = 0 ∨ x3.val = 1 ∨ x3.val = 2 ∨ x3.val = 3 := (by omega); generalize x3.val = f at *; rcases hf with rfl | rfl | rfl | rfl <;> rfl)
  | some ps =>
    rw [hp] at h95
    simp only [partsV] at h95
    refine CV_run (vf := vf21) rfl rfl ?_
    rw [vf21_start]
    (repeat' (first
    | refine RX_seq ?_
    | refine RX_block ?_
    | ((first | refine RX_reg ?_ | refine RX_cond' ?_ | refine RX_draw0 ?_ | refine RX_draw rfl ?_ | refine RX_skip ?_ | refine RX_exit ?_ | refine RX_ret ?_); try (simp only [go_sem, Nat.max_zero, List.isEmpty_cons, Int.reduceToNat, Nat.reducePow, Int.reduceEq, Int.reduceNe, Int.reduceLT, Int.reduceLE, Nat.reduceAdd, Nat.reduceLeDiff, ↓reduceIte, Nat.reduceLT, Nat.reduceMul, Nat.reduceSub, reduceCtorEq, frzLoc, rowCells, vAppM, bne_self_eq_false, beq_self_eq_true, beq_true, beq_false, I, B, w, ibeq, ibne, bbeq, decide_eq_false_iff_not, decide_not, Bool.not_not, Decidable.not_not, Bool.not_eq_eq_eq_not, gt_iff_lt, ge_iff_le, and_false, false_and, or_self, and_self, vf21_res, vf21_keep, List.length_map, IntKind.bits, shapeR, shapeV, Ik.zero, Ik.ag, Ik.cells, List.map_cons, List.map_nil, *]))
    | (refine ite_ngo (fun _ => ?_) (fun _ => ?_) <;> try (simp only [go_sem, Nat.max_zero, List.isEmpty_cons, Int.reduceToNat, Nat.reducePow, Int.reduceEq, Int.reduceNe, Int.reduceLT, Int.reduceLE, Nat.reduceAdd, Nat.reduceLeDiff, ↓reduceIte, Nat.reduceLT, Nat.reduceMul, Nat.reduceSub, reduceCtorEq, frzLoc, rowCells, vAppM, bne_self_eq_false, beq_self_eq_true, beq_true, beq_false, I, B, w, ibeq, ibne, bbeq, decide_eq_false_iff_not, decide_not, Bool.not_not, Decidable.not_not, Bool.not_eq_eq_eq_not, gt_iff_lt, ge_iff_le, and_false, false_and, or_self, and_self, vf21_res, vf21_keep, List.length_map, IntKind.bits, shapeR, shapeV, Ik.zero, Ik.ag, Ik.cells, List.map_cons, List.map_nil, *]))
    | (refine ite_go (fun _ => ?_) (fun _ => ?_) <;> try (simp only [go_sem, Nat.max_zero, List.isEmpty_cons, Int.reduceToNat, Nat.reducePow, Int.reduceEq, Int.reduceNe, Int.reduceLT, Int.reduceLE, Nat.reduceAdd, Nat.reduceLeDiff, ↓reduceIte, Nat.reduceLT, Nat.reduceMul, Nat.reduceSub, reduceCtorEq, frzLoc, rowCells, vAppM, bne_self_eq_false, beq_self_eq_true, beq_true, beq_false, I, B, w, ibeq, ibne, bbeq, decide_eq_false_iff_not, decide_not, Bool.not_not, Decidable.not_not, Bool.not_eq_eq_eq_not, gt_iff_lt, ge_iff_le, and_false, false_and, or_self, and_self, vf21_res, vf21_keep, List.length_map, IntKind.bits, shapeR, shapeV, Ik.zero, Ik.ag, Ik.cells, List.map_cons, List.map_nil, *]))))
    all_goals (have hf : x3.val = 0 ∨ x3.val = 1 ∨ x3.val = 2 ∨ x3.val = 3 := (by omega); generalize x3.val = f at *; rcases hf with rfl | rfl | rfl | rfl <;> rfl)
end Go.Proofs.Ytjhfakhmflemmaa

namespace Go.Proofs.Ytjhfakhmflemmaa
open Go.VM
def Tm.zero : Tm := .mk 0 0 []
/-- the body of what is sealed with a key -/
def Tm.unseal (key t : Tm) : Option Tm := match t with
  | .mk o _ [a, b] => if o = 7 ∧ a.eqb key = true then some b else none
  | _ => none
def unsV : Option Tm → V
  | some b => .tup [b.ag, .d (B true)]
  | none => .tup [Tm.zero.ag, .d (B false)]
theorem unseal_len {key : Tm} {o v : Int} {l : List Tm} (h : l.length ≠ 2) : Tm.unseal key (.mk o v l) = none := by
  unfold Tm.unseal
  split
  · rename_i h1; cases h1; exact absurd rfl h
  · rfl
theorem list2 {α : Type} : ∀ (l : List α), l.length = 2 → ∃ x0 x1, l = [x0, x1]
  | [x0, x1], _ => ⟨x0, x1, rfl⟩
set_option maxHeartbeats 4000000 in
theorem e98 (key t : Tm) (hs : ∀ u ∈ t.args, u.small) : CV VP 64 [key.ag, t.ag] [] = some ⟨unsV (Tm.unseal key t), [], [], 0⟩ := by
  obtain ⟨o, v, l⟩ := t
  by_cases hl : l.length = 2
  case neg =>
    rw [unseal_len hl]
    simp only [unsV, Tm.zero, Tm.ag, Tm.op_mk, Tm.val_mk, Tm.args_mk, List.map_nil]
    have hl2 : ¬ (l.length : Int) = 2 := by omega
    refine CV_run (vf := vf64) rfl rfl ?_
    rw [vf64_start]
    (repeat' (first
    | refine RX_seq ?_
    | refine RX_block ?_
    | ((first | refine RX_reg ?_ | refine RX_cond' ?_ | refine RX_draw0 ?_ | refine RX_draw rfl ?_ | refine RX_skip ?_ | refine RX_exit ?_ | refine RX_ret ?_); try (simp only [go_sem, Nat.max_zero, List.isEmpty_cons, Int.reduceToNat, Nat.reducePow, Int.reduceEq, Int.reduceNe, Int.reduceLT, Int.reduceLE, Nat.reduceAdd, Nat.reduceLeDiff, ↓reduceIte, Nat.reduceLT, Nat.reduceMul, Nat.reduceSub, reduceCtorEq, frzLoc, rowCells, vAppM, bne_self_eq_false, beq_self_eq_true, beq_true, beq_false, I, B, w, ibeq, ibne, bbeq, decide_eq_false_iff_not, decide_not, Bool.not_not, Decidable.not_not, Bool.not_eq_eq_eq_not, gt_iff_lt, ge_iff_le, and_false, false_and, or_self, and_self, vf64_res, vf64_keep, List.length_map, *]))
    | (refine ite_ngo (fun _ => ?_) (fun _ => ?_) <;> try (simp only [go_sem, Nat.max_zero, List.isEmpty_cons, Int.reduceToNat, Nat.reducePow, Int.reduceEq, Int.reduceNe, Int.reduceLT, Int.reduceLE, Nat.reduceAdd, Nat.reduceLeDiff, ↓reduceIte, Nat.reduceLT, Nat.reduceMul, Nat.reduceSub, reduceCtorEq, frzLoc, rowCells, vAppM, bne_self_eq_false, beq_self_eq_true, beq_true, beq_false, I, B, w, ibeq, ibne, bbeq, decide_eq_false_iff_not, decide_not, Bool.not_not, Decidable.not_not, Bool.not_eq_eq_eq_not, gt_iff_lt, ge_iff_le, and_false, false_and, or_self, and_self, vf64_res, vf64_keep, List.length_map, *]))
    | (refine ite_go (fun _ => ?_) (fun _ => ?_) <;> try (simp only [go_sem, Nat.max_zero, List.isEmpty_cons, Int.reduceToNat, Nat.reducePow, Int.reduceEq, Int.reduceNe, Int.reduceLT, Int.reduceLE, Nat.reduceAdd, Nat.reduceLeDiff, ↓reduceIte, Nat.reduceLT, Nat.reduceMul, Nat.reduceSub, reduceCtorEq, frzLoc, rowCells, vAppM, bne_self_eq_false, beq_self_eq_true, beq_true, beq_false, I, B, w, ibeq, ibne, bbeq, decide_eq_false_iff_not, decide_not, Bool.not_not, Decidable.not_not, Bool.not_eq_eq_eq_not, gt_iff_lt, ge_iff_le, and_false, false_and, or_self, and_self, vf64_res, vf64_keep, List.length_map, *]))))
  obtain ⟨a, b, rfl⟩ := list2 l hl
  have h99 := e99 a key (hs a (by simp [Tm.args]))
  clear hl hs
  simp only [Tm.unseal, unsV, Tm.zero, Tm.ag, Tm.op_mk, Tm.val_mk, Tm.args_mk, List.map_nil, List.map_cons, Tm.row_eq] at h99 ⊢
  cases he : a.eqb key with
  | true =>
    rw [he] at h99
    refine CV_run (vf := vf64) rfl rfl ?_
    rw [vf64_start]
    (repeat' (first
    | refine RX_seq ?_
    | refine RX_block ?_
    | ((first | refine RX_reg ?_ | refine RX_cond' ?_ | refine RX_draw0 ?_ | refine RX_draw rfl ?_ | refine RX_skip ?_ | refine RX_exit ?_ | refine RX_ret ?_); try (simp only [go_sem, Nat.max_zero, List.isEmpty_cons, Int.reduceToNat, Nat.reducePow, Int.reduceEq, Int.reduceNe, Int.reduceLT, Int.reduceLE, Nat.reduceAdd, Nat.reduceLeDiff, ↓reduceIte, Nat.reduceLT, Nat.reduceMul, Nat.reduceSub, reduceCtorEq, frzLoc, rowCells, vAppM, bne_self_eq_false, beq_self_eq_true, beq_true, beq_false, I, B, w, ibeq, ibne, bbeq, decide_eq_false_iff_not, decide_not, Bool.not_not, Decidable.not_not, Bool.not_eq_eq_eq_not, gt_iff_lt, ge_iff_le, and_false, false_and, or_self, and_self, vf64_res, vf64_keep, unsV, Tm.zero, Tm.ag, Tm.op_mk, Tm.val_mk, Tm.args_mk, List.map_nil, *]))
    | (refine ite_ngo (fun _ => ?_) (fun _ => ?_) <;> try (simp only [go_sem, Nat.max_zero, List.isEmpty_cons, Int.reduceToNat, Nat.reducePow, Int.reduceEq, Int.reduceNe, Int.reduceLT, Int.reduceLE, Nat.reduceAdd, Nat.reduceLeDiff, ↓reduceIte, Nat.reduceLT, Nat.reduceMul, Nat.reduceSub, reduceCtorEq, frzLoc, rowCells, vAppM, bne_self_eq_false, beq_self_eq_true, beq_true, beq_false, I, B, w, ibeq, ibne, bbeq, decide_eq_false_iff_not, decide_not, Bool.not_not, Decidable.not_not, Bool.not_eq_eq_eq_not, gt_iff_lt, ge_iff_le, and_false, false_and, or_self, and_self, vf64_res, vf64_keep, unsV, Tm.zero, Tm.ag, Tm.op_mk, Tm.val_mk, Tm.args_mk, List.map_nil, *]))
    | (refine ite_go (fun _ => ?_) (fun _ => ?_) <;> try (simp only [go_sem, Nat.max_zero, List.isEmpty_cons, Int.reduceToNat, Nat.reducePow, Int.reduceEq, Int.reduceNe, Int.reduceLT, Int.reduceLE, Nat.reduceAdd, Nat.reduceLeDiff, ↓reduceIte, Nat.reduceLT, Nat.reduceMul, Nat.reduceSub, reduceCtorEq, frzLoc, rowCells, vAppM, bne_self_eq_false, beq_self_eq_true, beq_true, beq_false, I, B, w, ibeq, ibne, bbeq, decide_eq_false_iff_not, decide_not, Bool.not_not, Decidable.not_not, Bool.not_eq_eq_eq_not, gt_iff_lt, ge_iff_le, and_false, false_and, or_self, and_self, vf64_res, vf64_keep, unsV, Tm.zero, Tm.ag, Tm.op_mk, Tm.val_mk, Tm.args_mk, List.map_nil, *]))))
  | false =>
    rw [he] at h99
    refine CV_run (vf := vf64) rfl rfl ?_
    rw [vf64_start]
    (repeat' (first
    | refine RX_seq ?_
    | refine RX_block ?_
    | ((first | refine RX_reg ?_ | refine RX_cond' ?_ | refine RX_draw0 ?_ | refine RX_draw rfl ?_ | refine RX_skip ?_ | refine RX_exit ?_ | refine RX_ret ?_); try (simp only [go_sem, Nat.max_zero, List.isEmpty_cons, Int.reduceToNat, Nat.reducePow, Int.reduceEq, Int.reduceNe, Int.reduceLT, Int.reduceLE, Nat.reduceAdd, Nat.reduceLeDiff, ↓reduceIte, Nat.reduceLT, Nat.reduceMul, Nat.reduceSub, reduceCtorEq, frzLoc, rowCells, vAppM, bne_self_eq_false, beq_self_eq_true, beq_true, beq_false, I, B, w, ibeq, ibne, bbeq, decide_eq_false_iff_not, decide_not, Bool.not_not, Decidable.not_not, Bool.not_eq_eq_eq_not, gt_iff_lt, ge_iff_le, and_false, false_and, or_self, and_self, vf64_res, vf64_keep, unsV, Tm.zero, Tm.ag, Tm.op_mk, Tm.val_mk, Tm.args_mk, List.map_nil, *]))
    | (refine ite_ngo (fun _ => ?_) (fun _ => ?_) <;> try (simp only [go_sem, Nat.max_zero, List.isEmpty_cons, Int.reduceToNat, Nat.reducePow, Int.reduceEq, Int.reduceNe, Int.reduceLT, Int.reduceLE, Nat.reduceAdd, Nat.reduceLeDiff, ↓reduceIte, Nat.reduceLT, Nat.reduceMul, Nat.reduceSub, reduceCtorEq, frzLoc, rowCells, vAppM, bne_self_eq_false, beq_self_eq_true, beq_true, beq_false, I, B, w, ibeq, ibne, bbeq, decide_eq_false_iff_not, decide_not, Bool.not_not, Decidable.not_not, Bool.not_eq_eq_eq_not, gt_iff_lt, ge_iff_le, and_false, false_and, or_self, and_self, vf64_res, vf64_keep, unsV, Tm.zero, Tm.ag, Tm.op_mk, Tm.val_mk, Tm.args_mk, List.map_nil, *]))
    | (refine ite_go (fun _ => ?_) (fun _ => ?_) <;> try (simp only [go_sem, Nat.max_zero, List.isEmpty_cons, Int.reduceToNat, Nat.reducePow, Int.reduceEq, Int.reduceNe, Int.reduceLT, Int.reduceLE, Nat.reduceAdd, Nat.reduceLeDiff, ↓reduceIte, Nat.reduceLT, Nat.reduceMul, Nat.reduceSub, reduceCtorEq, frzLoc, rowCells, vAppM, bne_self_eq_false, beq_self_eq_true, beq_true, beq_false, I, B, w, ibeq, ibne, bbeq, decide_eq_false_iff_not, decide_not, Bool.not_not, Decidable.not_not, Bool.not_eq_eq_eq_not, gt_iff_lt, ge_iff_le, and_false, false_and, or_self, and_self, vf64_res, vf64_keep, unsV, Tm.zero, Tm.ag, Tm.op_mk, Tm.val_mk, Tm.args_mk, List.map_nil, *]))))
theorem e100 (key t : Tm) (hs : ∀ u ∈ t.args, u.small) : CV VP 66 [key.ag, t.ag] [] = some ⟨unsV (Tm.unseal key t), [], [], 0⟩ := by
  obtain ⟨o, v, l⟩ := t
  by_cases hl : l.length = 2
  case neg =>
    rw [unseal_len hl]
    simp only [unsV, Tm.zero, Tm.ag, Tm.op_mk, Tm.val_mk, Tm.args_mk, List.map_nil]
    have hl2 : ¬ (l.length : Int) = 2 := by omega
    refine CV_run (vf := vf66) rfl rfl ?_
    rw [vf66_start]
    (repeat' (first
    | refine RX_seq ?_
    | refine RX_block ?_
    | ((first | refine RX_reg ?_ | refine RX_cond' ?_ | refine RX_draw0 ?_ | refine RX_draw rfl ?_ | refine RX_skip ?_ | refine RX_exit ?_ | refine RX_ret ?_); try (simp only [go_sem, Nat.max_zero, List.isEmpty_cons, Int.reduceToNat, Nat.reducePow, Int.reduceEq, Int.reduceNe, Int.reduceLT, Int.reduceLE, Nat.reduceAdd, Nat.reduceLeDiff, ↓reduceIte, Nat.reduceLT, Nat.reduceMul, Nat.reduceSub, reduceCtorEq, frzLoc, rowCells, vAppM, bne_self_eq_false, beq_self_eq_true, beq_true, beq_false, I, B, w, ibeq, ibne, bbeq, decide_eq_false_iff_not, decide_not, Bool.not_not, Decidable.not_not, Bool.not_eq_eq_eq_not, gt_iff_lt, ge_iff_le, and_false, false_and, or_self, and_self, vf66_res, vf66_keep, List.length_map, *]))
    | (refine ite_ngo (fun _ => ?_) (fun _ => ?_) <;> try (simp only [go_sem, Nat.max_zero, List.isEmpty_cons, Int.reduceToNat, Nat.reducePow, Int.reduceEq, Int.reduceNe, Int.reduceLT, Int.reduceLE, Nat.reduceAdd, Nat.reduceLeDiff, ↓reduceIte, Nat.reduceLT, Nat.reduceMul, Nat.reduceSub, reduceCtorEq, frzLoc, rowCells, vAppM, bne_self_eq_false, beq_self_eq_true, beq_true, beq_false, I, B, w, ibeq, ibne, bbeq, decide_eq_false_iff_not, decide_not, Bool.not_not, Decidable.not_not, Bool.not_eq_eq_eq_not, gt_iff_lt, ge_iff_le, and_false, false_and, or_self, and_self, vf66_res, vf66_keep, List.length_map, *]))
    | (refine ite_go (fun _ => ?_) (fun _ => ?_) <;> try (simp only [go_sem, Nat.max_zero, List.isEmpty_cons, Int.reduceToNat, Nat.reducePow, Int.reduceEq, Int.reduceNe, Int.reduceLT, Int.reduceLE, Nat.reduceAdd, Nat.reduceLeDiff, ↓reduceIte, Nat.reduceLT, Nat.reduceMul, Nat.reduceSub, reduceCtorEq, frzLoc, rowCells, vAppM, bne_self_eq_false, beq_self_eq_true, beq_true, beq_false, I, B, w, ibeq, ibne, bbeq, decide_eq_false_iff_not, decide_not, Bool.not_not, Decidable.not_not, Bool.not_eq_eq_eq_not, gt_iff_lt, ge_iff_le, and_false, false_and, or_self, and_self, vf66_res, vf66_keep, List.length_map, *]))))
  obtain ⟨a, b, rfl⟩ := list2 l hl
  have h19 := e19 _ a key (Nat.lt_succ_self _) (hs a (by simp [Tm.args]))
  clear hl hs
  simp only [Tm.unseal, unsV, Tm.zero, Tm.ag, Tm.op_mk, Tm.val_mk, Tm.args_mk, List.map_nil, List.map_cons, Tm.row_eq] at h19 ⊢
  cases he : a.eqb key with
  | true =>
    rw [he] at h19
    refine CV_run (vf := vf66) rfl rfl ?_
    rw [vf66_start]
    (repeat' (first
    | refine RX_seq ?_
    | refine RX_block ?_
    | ((first | refine RX_reg ?_ | refine RX_cond' ?_ | refine RX_draw0 ?_ | refine RX_draw rfl ?_ | refine RX_skip ?_ | refine RX_exit ?_ | refine RX_ret ?_); try (simp only [go_sem, Nat.max_zero, List.isEmpty_cons, Int.reduceToNat, Nat.reducePow, Int.reduceEq, Int.reduceNe, Int.reduceLT, Int.reduceLE, Nat.reduceAdd, Nat.reduceLeDiff, ↓reduceIte, Nat.reduceLT, Nat.reduceMul, Nat.reduceSub, reduceCtorEq, frzLoc, rowCells, vAppM, bne_self_eq_false, beq_self_eq_true, beq_true, beq_false, I, B, w, ibeq, ibne, bbeq, decide_eq_false_iff_not, decide_not, Bool.not_not, Decidable.not_not, Bool.not_eq_eq_eq_not, gt_iff_lt, ge_iff_le, and_false, false_and, or_self, and_self, vf66_res, vf66_keep, unsV, Tm.zero, Tm.ag, Tm.op_mk, Tm.val_mk, Tm.args_mk, List.map_nil, *]))
    | (refine ite_ngo (fun _ => ?_) (fun _ => ?_) <;> try (simp only [go_sem, Nat.max_zero, List.isEmpty_cons, Int.reduceToNat, Nat.reducePow, Int.reduceEq, Int.reduceNe, Int.reduceLT, Int.reduceLE, Nat.reduceAdd, Nat.reduceLeDiff, ↓reduceIte, Nat.reduceLT, Nat.reduceMul, Nat.reduceSub, reduceCtorEq, frzLoc, rowCells, vAppM, bne_self_eq_false, beq_self_eq_true, beq_true, beq_false, I, B, w, ibeq, ibne, bbeq, decide_eq_false_iff_not, decide_not, Bool.not_not, Decidable.not_not, Bool.not_eq_eq_eq_not, gt_iff_lt, ge_iff_le, and_false, false_and, or_self, and_self, vf66_res, vf66_keep, unsV, Tm.zero, Tm.ag, Tm.op_mk, Tm.val_mk, Tm.args_mk, List.map_nil, *]))
    | (refine ite_go (fun _ => ?_) (fun _ => ?_) <;> try (simp only [go_sem, Nat.max_zero, List.isEmpty_cons, Int.reduceToNat, Nat.reducePow, Int.reduceEq, Int.reduceNe, Int.reduceLT, Int.reduceLE, Nat.reduceAdd, Nat.reduceLeDiff, ↓reduceIte, Nat.reduceLT, Nat.reduceMul, Nat.reduceSub, reduceCtorEq, frzLoc, rowCells, vAppM, bne_self_eq_false, beq_self_eq_true, beq_true, beq_false, I, B, w, ibeq, ibne, bbeq, decide_eq_false_iff_not, decide_not, Bool.not_not, Decidable.not_not, Bool.not_eq_eq_eq_not, gt_iff_lt, ge_iff_le, and_false, false_and, or_self, and_self, vf66_res, vf66_keep, unsV, Tm.zero, Tm.ag, Tm.op_mk, Tm.val_mk, Tm.args_mk, List.map_nil, *]))))
  | false =>
    rw [he] at h19
    refine CV_run (vf := vf66) rfl rfl ?_
    rw [vf66_start]
    (repeat' (first
    | refine RX_seq ?_
    | refine RX_block ?_
    | ((first | refine RX_reg ?_ | refine RX_cond' ?_ | refine RX_draw0 ?_ | refine RX_draw rfl ?_ | refine RX_skip ?_ | refine RX_exit ?_ | refine RX_ret ?_); try (simp only [go_sem, Nat.max_zero, List.isEmpty_cons, Int.reduceToNat, Nat.reducePow, Int.reduceEq, Int.reduceNe, Int.reduceLT, Int.reduceLE, Nat.reduceAdd, Nat.reduceLeDiff, ↓reduceIte, Nat.reduceLT, Nat.reduceMul, Nat.reduceSub, reduceCtorEq, frzLoc, rowCells, vAppM, bne_self_eq_false, beq_self_eq_true, beq_true, beq_false, I, B, w, ibeq, ibne, bbeq, decide_eq_false_iff_not, decide_not, Bool.not_not, Decidable.not_not, Bool.not_eq_eq_eq_not, gt_iff_lt, ge_iff_le, and_false, false_and, or_self, and_self, vf66_res, vf66_keep, unsV, Tm.zero, Tm.ag, Tm.op_mk, Tm.val_mk, Tm.args_mk, List.map_nil, *]))
    | (refine ite_ngo (fun _ => ?_) (fun _ => ?_) <;> try (simp only [go_sem, Nat.max_zero, List.isEmpty_cons, Int.reduceToNat, Nat.reducePow, Int.reduceEq, Int.reduceNe, Int.reduceLT, Int.reduceLE, Nat.reduceAdd, Nat.reduceLeDiff, ↓reduceIte, Nat.reduceLT, Nat.reduceMul, Nat.reduceSub, reduceCtorEq, frzLoc, rowCells, vAppM, bne_self_eq_false, beq_self_eq_true, beq_true, beq_false, I, B, w, ibeq, ibne, bbeq, decide_eq_false_iff_not, decide_not, Bool.not_not, Decidable.not_not, Bool.not_eq_eq_eq_not, gt_iff_lt, ge_iff_le, and_false, false_and, or_self, and_self, vf66_res, vf66_keep, unsV, Tm.zero, Tm.ag, Tm.op_mk, Tm.val_mk, Tm.args_mk, List.map_nil, *]))
    | (refine ite_go (fun _ => ?_) (fun _ => ?_) <;> try (simp only [go_sem, Nat.max_zero, List.isEmpty_cons, Int.reduceToNat, Nat.reducePow, Int.reduceEq, Int.reduceNe, Int.reduceLT, Int.reduceLE, Nat.reduceAdd, Nat.reduceLeDiff, ↓reduceIte, Nat.reduceLT, Nat.reduceMul, Nat.reduceSub, reduceCtorEq, frzLoc, rowCells, vAppM, bne_self_eq_false, beq_self_eq_true, beq_true, beq_false, I, B, w, ibeq, ibne, bbeq, decide_eq_false_iff_not, decide_not, Bool.not_not, Decidable.not_not, Bool.not_eq_eq_eq_not, gt_iff_lt, ge_iff_le, and_false, false_and, or_self, and_self, vf66_res, vf66_keep, unsV, Tm.zero, Tm.ag, Tm.op_mk, Tm.val_mk, Tm.args_mk, List.map_nil, *]))))
end Go.Proofs.Ytjhfakhmflemmaa

namespace Go.Proofs.Ytjhfakhmflemmaa
open Go.VM
-- short lists everywhere
mutual
def Tm.tame : Tm → Prop
  | .mk _ _ args => args.length < 2000000 ∧ Tm.tames args
def Tm.tames : List Tm → Prop
  | [] => True
  | t :: ts => t.tame ∧ Tm.tames ts
end
mutual
theorem Tm.tame.small : ∀ {t : Tm}, t.tame → t.small
  | .mk _ _ args, h => ⟨by have := h.1; omega, Tm.tames.smalls h.2⟩
theorem Tm.tames.smalls : ∀ {ts : List Tm}, Tm.tames ts → Tm.smalls ts
  | [], _ => trivial
  | _ :: _, h => ⟨h.1.small, Tm.tames.smalls h.2⟩
end
theorem Tm.tames_mem : ∀ {ts : List Tm} {t : Tm}, Tm.tames ts → t ∈ ts → t.tame
  | t :: ts, u, h, hu => by
    rcases List.mem_cons.1 hu with rfl | hu
    · exact h.1
    · exact Tm.tames_mem h.2 hu
theorem Tm.tame.len {t : Tm} (h : t.tame) : t.args.length < 2000000 := by obtain ⟨o, v, l⟩ := t; exact h.1
theorem Tm.tame.mem {t u : Tm} (h : t.tame) (hu : u ∈ t.args) : u.tame := by obtain ⟨o, v, l⟩ := t; exact Tm.tames_mem h.2 hu
def openB (m : Ik) (xs : List Tm) : Option Tm → Option Ik
  | some b => if b.op = 3 ∧ b.args.length = 6 ∧ Tm.eqbs (b.args.take 5) (xs.take 5) = true then (match (b.args.getD 5 Tm.zero).parts with | some ps => some { m with parts := ps } | none => none) else none
  | none => none
/-- what a sealed message holds -/
def Tm.openK (key t : Tm) : Option Ik := match t.shape with
  | some (m, true) => openB m t.args (Tm.unseal key (t.args.getD 5 Tm.zero))
  | _ => none
def openV : Option Ik → V
  | some m => .tup [m.ag, .d (B true)]
  | none => .tup [Ik.zero.ag, .d (B false)]
theorem shape_sealed {t : Tm} {m : Ik} (h : t.shape = some (m, true)) : ∃ v x0 x1 x2 x3 x4 rv k b, t = .mk 3 v [x0, x1, x2, x3, x4, .mk 7 rv [k, b]] ∧ m.parts = [] := by
  obtain ⟨o, v, l⟩ := t
  unfold Tm.shape at h
  simp only [Tm.op_mk, Tm.args_mk] at h
  by_cases ho : o = 3
  case neg => simp only [ho, if_false, shapeR, reduceCtorEq] at h
  subst ho
  simp only [if_true] at h
  cases hr : rdHead l with
  | none => rw [hr] at h; simp only [shapeR, reduceCtorEq] at h
  | some p =>
    obtain ⟨m', r⟩ := p
    rw [hr] at h
    obtain ⟨x0, x1, x2, x3, x4, rfl, hm⟩ := rdHead_some hr
    simp only [shapeR] at h
    split at h
    · simp at h
    · split at h
      · rename_i h7
        obtain ⟨ro, rv, ra⟩ := r
        obtain ⟨h71, h72⟩ := h7
        obtain ⟨k, b, rfl⟩ := list2 ra h72
        simp only [Tm.op_mk] at h71
        subst h71
        simp only [Option.some.injEq, Prod.mk.injEq, and_true] at h
        subst h
        exact ⟨v, x0, x1, x2, x3, x4, rv, k, b, rfl, hm⟩
      · cases h
end Go.Proofs.Ytjhfakhmflemmaa

namespace Go.Proofs.Ytjhfakhmflemmaa
open Go.VM
set_option maxHeartbeats 8000000 in
theorem e60 (key t : Tm) (ht : t.tame) : CV VP 23 [key.ag, t.ag] [] = some ⟨openV (Tm.openK key t), [], [], 0⟩ := by
  have hsh := e58 t (fun u hu => (ht.mem hu).len)
  unfold Tm.openK
  cases hs : t.shape with
  | none =>
    rw [hs] at hsh
    simp only [shapeV, openV, Ik.zero, Ik.ag, Ik.cells, List.map_cons, List.map_nil, Tm.ag] at hsh ⊢
    refine CV_run (vf := vf23) rfl rfl ?_
    rw [vf23_start]
    (repeat' (first
    | refine RX_seq ?_
    | refine RX_block ?_
    | ((first | refine RX_reg ?_ | refine RX_cond' ?_ | refine RX_draw0 ?_ | refine RX_draw rfl ?_ | refine RX_skip ?_ | refine RX_exit ?_ | refine RX_ret ?_); try (simp only [go_sem, Nat.max_zero, List.isEmpty_cons, Int.reduceToNat, Nat.reducePow, Int.reduceEq, Int.reduceNe, Int.reduceLT, Int.reduceLE, Nat.reduceAdd, Nat.reduceLeDiff, ↓reduceIte, Nat.reduceLT, Nat.reduceMul, Nat.reduceSub, reduceCtorEq, frzLoc, rowCells, vAppM, bne_self_eq_false, beq_self_eq_true, beq_true, beq_false, I, B, w, ibeq, ibne, bbeq, decide_eq_false_iff_not, decide_not, Bool.not_not, Decidable.not_not, Bool.not_eq_eq_eq_not, gt_iff_lt, ge_iff_le, and_false, false_and, or_self, and_self, vf23_res, vf23_keep, *]))
    | (refine ite_ngo (fun _ => ?_) (fun _ => ?_) <;> try (simp only [go_sem, Nat.max_zero, List.isEmpty_cons, Int.reduceToNat, Nat.reducePow, Int.reduceEq, Int.reduceNe, Int.reduceLT, Int.reduceLE, Nat.reduceAdd, Nat.reduceLeDiff, ↓reduceIte, Nat.reduceLT, Nat.reduceMul, Nat.reduceSub, reduceCtorEq, frzLoc, rowCells, vAppM, bne_self_eq_false, beq_self_eq_true, beq_true, beq_false, I, B, w, ibeq, ibne, bbeq, decide_eq_false_iff_not, decide_not, Bool.not_not, Decidable.not_not, Bool.not_eq_eq_eq_not, gt_iff_lt, ge_iff_le, and_false, false_and, or_self, and_self, vf23_res, vf23_keep, *]))
    | (refine ite_go (fun _ => ?_) (fun _ => ?_) <;> try (simp only [go_sem, Nat.max_zero, List.isEmpty_cons, Int.reduceToNat, Nat.reducePow, Int.reduceEq, Int.reduceNe, Int.reduceLT, Int.reduceLE, Nat.reduceAdd, Nat.reduceLeDiff, ↓reduceIte, Nat.reduceLT, Nat.reduceMul, Nat.reduceSub, reduceCtorEq, frzLoc, rowCells, vAppM, bne_self_eq_false, beq_self_eq_true, beq_true, beq_false, I, B, w, ibeq, ibne, bbeq, decide_eq_false_iff_not, decide_not, Bool.not_not, Decidable.not_not, Bool.not_eq_eq_eq_not, gt_iff_lt, ge_iff_le, and_false, false_and, or_self, and_self, vf23_res, vf23_keep, *]))))
  | some p =>
    obtain ⟨m, s⟩ := p
    rw [hs] at hsh
    cases s with
    | false =>
      simp only [shapeV, openV, Ik.zero, Ik.ag, Ik.cells, List.map_cons, List.map_nil, Tm.ag] at hsh ⊢
      refine CV_run (vf := vf23) rfl rfl ?_
      rw [vf23_start]
      (repeat' (first
    | refine RX_seq ?_
    | refine RX_block ?_
    | ((first | refine RX_reg ?_ | refine RX_cond' ?_ | refine RX_draw0 ?_ | refine RX_draw rfl ?_ | refine RX_skip ?_ | refine RX_exit ?_ | refine RX_ret ?_); try (simp only [go_sem, Nat.max_zero, List.isEmpty_cons, Int.reduceToNat, Nat.reducePow, Int.reduceEq, Int.reduceNe, Int.reduceLT, Int.reduceLE, Nat.reduceAdd, Nat.reduceLeDiff, ↓reduceIte, Nat.reduceLT, Nat.reduceMul, Nat.reduceSub, reduceCtorEq, frzLoc, rowCells, vAppM, bne_self_eq_false, beq_self_eq_true, beq_true, beq_false, I, B, w, ibeq, ibne, bbeq, decide_eq_false_iff_not, decide_not, Bool.not_not, Decidable.not_not, Bool.not_eq_eq_eq_not, gt_iff_lt, ge_iff_le, and_false, false_and, or_self, and_self, vf23_res, vf23_keep, *]))
    | (refine ite_ngo (fun _ => ?_) (fun _ => ?_) <;> try (simp only [go_sem, Nat.max_zero, List.isEmpty_cons, Int.reduceToNat, Nat.reducePow, Int.reduceEq, Int.reduceNe, Int.reduceLT, Int.reduceLE, Nat.reduceAdd, Nat.reduceLeDiff, ↓reduceIte, Nat.reduceLT, Nat.reduceMul, Nat.reduceSub, reduceCtorEq, frzLoc, rowCells, vAppM, bne_self_eq_false, beq_self_eq_true, beq_true, beq_false, I, B, w, ibeq, ibne, bbeq, decide_eq_false_iff_not, decide_not, Bool.not_not, Decidable.not_not, Bool.not_eq_eq_eq_not, gt_iff_lt, ge_iff_le, and_false, false_and, or_self, and_self, vf23_res, vf23_keep, *]))
    | (refine ite_go (fun _ => ?_) (fun _ => ?_) <;> try (simp only [go_sem, Nat.max_zero, List.isEmpty_cons, Int.reduceToNat, Nat.reducePow, Int.reduceEq, Int.reduceNe, Int.reduceLT, Int.reduceLE, Nat.reduceAdd, Nat.reduceLeDiff, ↓reduceIte, Nat.reduceLT, Nat.reduceMul, Nat.reduceSub, reduceCtorEq, frzLoc, rowCells, vAppM, bne_self_eq_false, beq_self_eq_true, beq_true, beq_false, I, B, w, ibeq, ibne, bbeq, decide_eq_false_iff_not, decide_not, Bool.not_not, Decidable.not_not, Bool.not_eq_eq_eq_not, gt_iff_lt, ge_iff_le, and_false, false_and, or_self, and_self, vf23_res, vf23_keep, *]))))
    | true =>
      obtain ⟨v, x0, x1, x2, x3, x4, rv, k, b, rfl, hm⟩ := shape_sealed hs
      clear hs
      have hk := ht.mem (u := .mk 7 rv [k, b]) (by simp [Tm.args])
      have hb := hk.mem (u := b) (by simp [Tm.args])
      have hu := e98 key (.mk 7 rv [k, b]) (fun u hu => (hk.mem hu).small)
      simp only [Tm.args_mk, List.getD_cons_succ, List.getD_cons_zero, shapeV, Tm.ag, Tm.op_mk, Tm.val_mk, Ik.ag, Ik.cells, List.map_cons, List.map_nil, Tm.row_eq] at hsh hu ⊢
      obtain ⟨mk, ms, mr, mrep, mini, mid, mps⟩ := m
      simp only at hm
      subst hm
      simp only [List.map_nil] at hsh
      cases huu : Tm.unseal key (.mk 7 rv [k, b]) with
      | none =>
        rw [huu] at hu
        simp only [unsV, Tm.zero, Tm.ag, Tm.op_mk, Tm.val_mk, Tm.args_mk, List.map_nil, openB, openV, Ik.zero, Ik.ag, Ik.cells, List.map_cons] at hu ⊢
        refine CV_run (vf := vf23) rfl rfl ?_
        rw [vf23_start]
        (repeat' (first
    | refine RX_seq ?_
    | refine RX_block ?_
    | ((first | refine RX_reg ?_ | refine RX_cond' ?_ | refine RX_draw0 ?_ | refine RX_draw rfl ?_ | refine RX_skip ?_ | refine RX_exit ?_ | refine RX_ret ?_); try (simp only [go_sem, Nat.max_zero, List.isEmpty_cons, Int.reduceToNat, Nat.reducePow, Int.reduceEq, Int.reduceNe, Int.reduceLT, Int.reduceLE, Nat.reduceAdd, Nat.reduceLeDiff, ↓reduceIte, Nat.reduceLT, Nat.reduceMul, Nat.reduceSub, reduceCtorEq, frzLoc, rowCells, vAppM, bne_self_eq_false, beq_self_eq_true, beq_true, beq_false, I, B, w, ibeq, ibne, bbeq, decide_eq_false_iff_not, decide_not, Bool.not_not, Decidable.not_not, Bool.not_eq_eq_eq_not, gt_iff_lt, ge_iff_le, and_false, false_and, or_self, and_self, vf23_res, vf23_keep, *]))
    | (refine ite_ngo (fun _ => ?_) (fun _ => ?_) <;> try (simp only [go_sem, Nat.max_zero, List.isEmpty_cons, Int.reduceToNat, Nat.reducePow, Int.reduceEq, Int.reduceNe, Int.reduceLT, Int.reduceLE, Nat.reduceAdd, Nat.reduceLeDiff, ↓reduceIte, Nat.reduceLT, Nat.reduceMul, Nat.reduceSub, reduceCtorEq, frzLoc, rowCells, vAppM, bne_self_eq_false, beq_self_eq_true, beq_true, beq_false, I, B, w, ibeq, ibne, bbeq, decide_eq_false_iff_not, decide_not, Bool.not_not, Decidable.not_not, Bool.not_eq_eq_eq_not, gt_iff_lt, ge_iff_le, and_false, false_and, or_self, and_self, vf23_res, vf23_keep, *]))
    | (refine ite_go (fun _ => ?_) (fun _ => ?_) <;> try (simp only [go_sem, Nat.max_zero, List.isEmpty_cons, Int.reduceToNat, Nat.reducePow, Int.reduceEq, Int.reduceNe, Int.reduceLT, Int.reduceLE, Nat.reduceAdd, Nat.reduceLeDiff, ↓reduceIte, Nat.reduceLT, Nat.reduceMul, Nat.reduceSub, reduceCtorEq, frzLoc, rowCells, vAppM, bne_self_eq_false, beq_self_eq_true, beq_true, beq_false, I, B, w, ibeq, ibne, bbeq, decide_eq_false_iff_not, decide_not, Bool.not_not, Decidable.not_not, Bool.not_eq_eq_eq_not, gt_iff_lt, ge_iff_le, and_false, false_and, or_self, and_self, vf23_res, vf23_keep, *]))))
      | some bb =>
        have hbb : bb = b := by
          unfold Tm.unseal at huu
          simp only at huu
          split at huu
          · cases huu; rfl
          · cases huu
        subst hbb
        rw [huu] at hu
        clear huu hk ht
        obtain ⟨bo, bv, L⟩ := bb
        simp only [unsV, Tm.zero, Tm.ag, Tm.op_mk, Tm.val_mk, Tm.args_mk, openB] at hsh hu ⊢
        by_cases ho : bo = 3
        case neg =>
          simp only [ho, false_and, if_false, openV, Ik.zero, Ik.ag, Ik.cells, List.map_cons, List.map_nil]
          refine CV_run (vf := vf23) rfl rfl ?_
          rw [vf23_start]
          (repeat' (first
    | refine RX_seq ?_
    | refine RX_block ?_
    | ((first | refine RX_reg ?_ | refine RX_cond' ?_ | refine RX_draw0 ?_ | refine RX_draw rfl ?_ | refine RX_skip ?_ | refine RX_exit ?_ | refine RX_ret ?_); try (simp only [go_sem, Nat.max_zero, List.isEmpty_cons, Int.reduceToNat, Nat.reducePow, Int.reduceEq, Int.reduceNe, Int.reduceLT, Int.reduceLE, Nat.reduceAdd, Nat.reduceLeDiff, ↓reduceIte, Nat.reduceLT, Nat.reduceMul, Nat.reduceSub, reduceCtorEq, frzLoc, rowCells, vAppM, bne_self_eq_false, beq_self_eq_true, beq_true, beq_false, I, B, w, ibeq, ibne, bbeq, decide_eq_false_iff_not, decide_not, Bool.not_not, Decidable.not_not, Bool.not_eq_eq_eq_not, gt_iff_lt, ge_iff_le, and_false, false_and, or_self, and_self, vf23_res, vf23_keep, List.length_map, *]))
    | (refine ite_ngo (fun _ => ?_) (fun _ => ?_) <;> try (simp only [go_sem, Nat.max_zero, List.isEmpty_cons, Int.reduceToNat, Nat.reducePow, Int.reduceEq, Int.reduceNe, Int.reduceLT, Int.reduceLE, Nat.reduceAdd, Nat.reduceLeDiff, ↓reduceIte, Nat.reduceLT, Nat.reduceMul, Nat.reduceSub, reduceCtorEq, frzLoc, rowCells, vAppM, bne_self_eq_false, beq_self_eq_true, beq_true, beq_false, I, B, w, ibeq, ibne, bbeq, decide_eq_false_iff_not, decide_not, Bool.not_not, Decidable.not_not, Bool.not_eq_eq_eq_not, gt_iff_lt, ge_iff_le, and_false, false_and, or_self, and_self, vf23_res, vf23_keep, List.length_map, *]))
    | (refine ite_go (fun _ => ?_) (fun _ => ?_) <;> try (simp only [go_sem, Nat.max_zero, List.isEmpty_cons, Int.reduceToNat, Nat.reducePow, Int.reduceEq, Int.reduceNe, Int.reduceLT, Int.reduceLE, Nat.reduceAdd, Nat.reduceLeDiff, ↓reduceIte, Nat.reduceLT, Nat.reduceMul, Nat.reduceSub, reduceCtorEq, frzLoc, rowCells, vAppM, bne_self_eq_false, beq_self_eq_true, beq_true, beq_false, I, B, w, ibeq, ibne, bbeq, decide_eq_false_iff_not, decide_not, Bool.not_not, Decidable.not_not, Bool.not_eq_eq_eq_not, gt_iff_lt, ge_iff_le, and_false, false_and, or_self, and_self, vf23_res, vf23_keep, List.length_map, *]))))
        subst ho
        by_cases hl : L.length = 6
        case neg =>
          have hl2 : ¬ (L.length : Int) = 6 := by omega
          simp only [hl, true_and, false_and, if_false, openV, Ik.zero, Ik.ag, Ik.cells, List.map_cons, List.map_nil]
          refine CV_run (vf := vf23) rfl rfl ?_
          rw [vf23_start]
          (repeat' (first
    | refine RX_seq ?_
    | refine RX_block ?_
    | ((first | refine RX_reg ?_ | refine RX_cond' ?_ | refine RX_draw0 ?_ | refine RX_draw rfl ?_ | refine RX_skip ?_ | refine RX_exit ?_ | refine RX_ret ?_); try (simp only [go_sem, Nat.max_zero, List.isEmpty_cons, Int.reduceToNat, Nat.reducePow, Int.reduceEq, Int.reduceNe, Int.reduceLT, Int.reduceLE, Nat.reduceAdd, Nat.reduceLeDiff, ↓reduceIte, Nat.reduceLT, Nat.reduceMul, Nat.reduceSub, reduceCtorEq, frzLoc, rowCells, vAppM, bne_self_eq_false, beq_self_eq_true, beq_true, beq_false, I, B, w, ibeq, ibne, bbeq, decide_eq_false_iff_not, decide_not, Bool.not_not, Decidable.not_not, Bool.not_eq_eq_eq_not, gt_iff_lt, ge_iff_le, and_false, false_and, or_self, and_self, vf23_res, vf23_keep, List.length_map, *]))
    | (refine ite_ngo (fun _ => ?_) (fun _ => ?_) <;> try (simp only [go_sem, Nat.max_zero, List.isEmpty_cons, Int.reduceToNat, Nat.reducePow, Int.reduceEq, Int.reduceNe, Int.reduceLT, Int.reduceLE, Nat.reduceAdd, Nat.reduceLeDiff, ↓reduceIte, Nat.reduceLT, Nat.reduceMul, Nat.reduceSub, reduceCtorEq, frzLoc, rowCells, vAppM, bne_self_eq_false, beq_self_eq_true, beq_true, beq_false, I, B, w, ibeq, ibne, bbeq, decide_eq_false_iff_not, decide_not, Bool.not_not, Decidable.not_not, Bool.not_eq_eq_eq_not, gt_iff_lt, ge_iff_le, and_false, false_and, or_self, and_self, vf23_res, vf23_keep, List.length_map, *]))
    | (refine ite_go (fun _ => ?_) (fun _ => ?_) <;> try (simp only [go_sem, Nat.max_zero, List.isEmpty_cons, Int.reduceToNat, Nat.reducePow, Int.reduceEq, Int.reduceNe, Int.reduceLT, Int.reduceLE, Nat.reduceAdd, Nat.reduceLeDiff, ↓reduceIte, Nat.reduceLT, Nat.reduceMul, Nat.reduceSub, reduceCtorEq, frzLoc, rowCells, vAppM, bne_self_eq_false, beq_self_eq_true, beq_true, beq_false, I, B, w, ibeq, ibne, bbeq, decide_eq_false_iff_not, decide_not, Bool.not_not, Decidable.not_not, Bool.not_eq_eq_eq_not, gt_iff_lt, ge_iff_le, and_false, false_and, or_self, and_self, vf23_res, vf23_keep, List.length_map, *]))))
        obtain ⟨y0, y1, y2, y3, y4, y5, rfl⟩ := list6 L hl
        clear hl
        have hp := e95 y5 (hb.mem (u := y5) (by simp [Tm.args])).len
        have c0 := e99 y0 x0 (hb.mem (u := y0) (by simp [Tm.args])).small
        have c1 := e99 y1 x1 (hb.mem (u := y1) (by simp [Tm.args])).small
        have c2 := e99 y2 x2 (hb.mem (u := y2) (by simp [Tm.args])).small
        have c3 := e99 y3 x3 (hb.mem (u := y3) (by simp [Tm.args])).small
        have c4 := e99 y4 x4 (hb.mem (u := y4) (by simp [Tm.args])).small
        clear hb
        simp only [List.length_cons, List.length_nil, Nat.zero_add, Nat.reduceAdd, true_and, List.take_succ_cons, List.take_zero, List.getD_cons_succ, List.getD_cons_zero, List.map_cons, List.map_nil, Tm.row_eq, Tm.ag] at hp c0 c1 c2 c3 c4 hu hsh ⊢
        simp only [Tm.eqbs, Bool.and_true]
        have w0 : IntKind.i64.wrap (0 + 1) = 1 := rfl
        have w1 : IntKind.i64.wrap (1 + 1) = 2 := rfl
        have w2 : IntKind.i64.wrap (2 + 1) = 3 := rfl
        have w3 : IntKind.i64.wrap (3 + 1) = 4 := rfl
        have w4 : IntKind.i64.wrap (4 + 1) = 5 := rfl
        cases d0 : y0.eqb x0 with
        | false =>
          rw [d0] at c0
          simp only [Bool.false_and, Bool.and_false, Bool.true_and, Bool.false_eq_true, if_false, openV, Ik.zero, Ik.ag, Ik.cells, List.map_cons, List.map_nil]
          refine CV_run (vf := vf23) rfl rfl ?_
          rw [vf23_start]
          (repeat' (first
    | refine RX_seq ?_
    | refine RX_block ?_
    | ((first | refine RX_reg ?_ | refine RX_cond' ?_ | refine RX_draw0 ?_ | refine RX_draw rfl ?_ | refine RX_skip ?_ | refine RX_exit ?_ | refine RX_ret ?_); try (simp only [go_sem, Nat.max_zero, List.isEmpty_cons, Int.reduceToNat, Nat.reducePow, Int.reduceEq, Int.reduceNe, Int.reduceLT, Int.reduceLE, Nat.reduceAdd, Nat.reduceLeDiff, ↓reduceIte, Nat.reduceLT, Nat.reduceMul, Nat.reduceSub, reduceCtorEq, frzLoc, rowCells, vAppM, bne_self_eq_false, beq_self_eq_true, beq_true, beq_false, I, B, w, ibeq, ibne, bbeq, decide_eq_false_iff_not, decide_not, Bool.not_not, Decidable.not_not, Bool.not_eq_eq_eq_not, gt_iff_lt, ge_iff_le, and_false, false_and, or_self, and_self, vf23_res, vf23_keep, *]))
    | (refine ite_ngo (fun _ => ?_) (fun _ => ?_) <;> try (simp only [go_sem, Nat.max_zero, List.isEmpty_cons, Int.reduceToNat, Nat.reducePow, Int.reduceEq, Int.reduceNe, Int.reduceLT, Int.reduceLE, Nat.reduceAdd, Nat.reduceLeDiff, ↓reduceIte, Nat.reduceLT, Nat.reduceMul, Nat.reduceSub, reduceCtorEq, frzLoc, rowCells, vAppM, bne_self_eq_false, beq_self_eq_true, beq_true, beq_false, I, B, w, ibeq, ibne, bbeq, decide_eq_false_iff_not, decide_not, Bool.not_not, Decidable.not_not, Bool.not_eq_eq_eq_not, gt_iff_lt, ge_iff_le, and_false, false_and, or_self, and_self, vf23_res, vf23_keep, *]))
    | (refine ite_go (fun _ => ?_) (fun _ => ?_) <;> try (simp only [go_sem, Nat.max_zero, List.isEmpty_cons, Int.reduceToNat, Nat.reducePow, Int.reduceEq, Int.reduceNe, Int.reduceLT, Int.reduceLE, Nat.reduceAdd, Nat.reduceLeDiff, ↓reduceIte, Nat.reduceLT, Nat.reduceMul, Nat.reduceSub, reduceCtorEq, frzLoc, rowCells, vAppM, bne_self_eq_false, beq_self_eq_true, beq_true, beq_false, I, B, w, ibeq, ibne, bbeq, decide_eq_false_iff_not, decide_not, Bool.not_not, Decidable.not_not, Bool.not_eq_eq_eq_not, gt_iff_lt, ge_iff_le, and_false, false_and, or_self, and_self, vf23_res, vf23_keep, *]))
    | (refine RL_head ?_; simp only [go_sem, Nat.max_zero, List.isEmpty_cons, Int.reduceToNat, Nat.reducePow, Int.reduceEq, Int.reduceNe, Int.reduceLT, Int.reduceLE, Nat.reduceAdd, Nat.reduceLeDiff, ↓reduceIte, Nat.reduceLT, Nat.reduceMul, Nat.reduceSub, reduceCtorEq, frzLoc, rowCells, vAppM, bne_self_eq_false, beq_self_eq_true, beq_true, beq_false, I, B, w, ibeq, ibne, bbeq, decide_eq_false_iff_not, decide_not, Bool.not_not, Decidable.not_not, Bool.not_eq_eq_eq_not, gt_iff_lt, ge_iff_le, and_false, false_and, or_self, and_self, vf23_res, vf23_keep, *, St.head, forget, vf23K0, RLK_some]; refine vf23L0_go ?_)
    | refine RX_loop ?_))
        | true =>
        rw [d0] at c0
        cases d1 : y1.eqb x1 with
        | false =>
          rw [d1] at c1
          simp only [Bool.false_and, Bool.and_false, Bool.true_and, Bool.false_eq_true, if_false, openV, Ik.zero, Ik.ag, Ik.cells, List.map_cons, List.map_nil]
          refine CV_run (vf := vf23) rfl rfl ?_
          rw [vf23_start]
          (repeat' (first
    | refine RX_seq ?_
    | refine RX_block ?_
    | ((first | refine RX_reg ?_ | refine RX_cond' ?_ | refine RX_draw0 ?_ | refine RX_draw rfl ?_ | refine RX_skip ?_ | refine RX_exit ?_ | refine RX_ret ?_); try (simp only [go_sem, Nat.max_zero, List.isEmpty_cons, Int.reduceToNat, Nat.reducePow, Int.reduceEq, Int.reduceNe, Int.reduceLT, Int.reduceLE, Nat.reduceAdd, Nat.reduceLeDiff, ↓reduceIte, Nat.reduceLT, Nat.reduceMul, Nat.reduceSub, reduceCtorEq, frzLoc, rowCells, vAppM, bne_self_eq_false, beq_self_eq_true, beq_true, beq_false, I, B, w, ibeq, ibne, bbeq, decide_eq_false_iff_not, decide_not, Bool.not_not, Decidable.not_not, Bool.not_eq_eq_eq_not, gt_iff_lt, ge_iff_le, and_false, false_and, or_self, and_self, vf23_res, vf23_keep, *]))
    | (refine ite_ngo (fun _ => ?_) (fun _ => ?_) <;> try (simp only [go_sem, Nat.max_zero, List.isEmpty_cons, Int.reduceToNat, Nat.reducePow, Int.reduceEq, Int.reduceNe, Int.reduceLT, Int.reduceLE, Nat.reduceAdd, Nat.reduceLeDiff, ↓reduceIte, Nat.reduceLT, Nat.reduceMul, Nat.reduceSub, reduceCtorEq, frzLoc, rowCells, vAppM, bne_self_eq_false, beq_self_eq_true, beq_true, beq_false, I, B, w, ibeq, ibne, bbeq, decide_eq_false_iff_not, decide_not, Bool.not_not, Decidable.not_not, Bool.not_eq_eq_eq_not, gt_iff_lt, ge_iff_le, and_false, false_and, or_self, and_self, vf23_res, vf23_keep, *]))
    | (refine ite_go (fun _ => ?_) (fun _ => ?_) <;> try (simp only [go_sem, Nat.max_zero, List.isEmpty_cons, Int.reduceToNat, Nat.reducePow, Int.reduceEq, Int.reduceNe, Int.reduceLT, Int.reduceLE, Nat.reduceAdd, Nat.reduceLeDiff, ↓reduceIte, Nat.reduceLT, Nat.reduceMul, Nat.reduceSub, reduceCtorEq, frzLoc, rowCells, vAppM, bne_self_eq_false, beq_self_eq_true, beq_true, beq_false, I, B, w, ibeq, ibne, bbeq, decide_eq_false_iff_not, decide_not, Bool.not_not, Decidable.not_not, Bool.not_eq_eq_eq_not, gt_iff_lt, ge_iff_le, and_false, false_and, or_self, and_self, vf23_res, vf23_keep, *]))
    | (refine RL_head ?_; simp only [go_sem, Nat.max_zero, List.isEmpty_cons, Int.reduceToNat, Nat.reducePow, Int.reduceEq, Int.reduceNe, Int.reduceLT, Int.reduceLE, Nat.reduceAdd, Nat.reduceLeDiff, ↓reduceIte, Nat.reduceLT, Nat.reduceMul, Nat.reduceSub, reduceCtorEq, frzLoc, rowCells, vAppM, bne_self_eq_false, beq_self_eq_true, beq_true, beq_false, I, B, w, ibeq, ibne, bbeq, decide_eq_false_iff_not, decide_not, Bool.not_not, Decidable.not_not, Bool.not_eq_eq_eq_not, gt_iff_lt, ge_iff_le, and_false, false_and, or_self, and_self, vf23_res, vf23_keep, *, St.head, forget, vf23K0, RLK_some]; refine vf23L0_go ?_)
    | refine RX_loop ?_))
        | true =>
        rw [d1] at c1
        cases d2 : y2.eqb x2 with
        | false =>
          rw [d2] at c2
          simp only [Bool.false_and, Bool.and_false, Bool.true_and, Bool.false_eq_true, if_false, openV, Ik.zero, Ik.ag, Ik.cells, List.map_cons, List.map_nil]
          refine CV_run (vf := vf23) rfl rfl ?_
          rw [vf23_start]
          (repeat' (first
    | refine RX_seq ?_
    | refine RX_block ?_
    | ((first | refine RX_reg ?_ | refine RX_cond' ?_ | refine RX_draw0 ?_ | refine RX_draw rfl ?_ | refine RX_skip ?_ | refine RX_exit ?_ | refine RX_ret ?_); try (simp only [go_sem, Nat.max_zero, List.isEmpty_cons, Int.reduceToNat, Nat.reducePow, Int.reduceEq, Int.reduceNe, Int.reduceLT, Int.reduceLE, Nat.reduceAdd, Nat.reduceLeDiff, ↓reduceIte, Nat.reduceLT, Nat.reduceMul, Nat.reduceSub, reduceCtorEq, frzLoc, rowCells, vAppM, bne_self_eq_false, beq_self_eq_true, beq_true, beq_false, I, B, w, ibeq, ibne, bbeq, decide_eq_false_iff_not, decide_not, Bool.not_not, Decidable.not_not, Bool.not_eq_eq_eq_not, gt_iff_lt, ge_iff_le, and_false, false_and, or_self, and_self, vf23_res, vf23_keep, *]))
    | (refine ite_ngo (fun _ => ?_) (fun _ => ?_) <;> try (simp only [go_sem, Nat.max_zero, List.isEmpty_cons, Int.reduceToNat, Nat.reducePow, Int.reduceEq, Int.reduceNe, Int.reduceLT, Int.reduceLE, Nat.reduceAdd, Nat.reduceLeDiff, ↓reduceIte, Nat.reduceLT, Nat.reduceMul, Nat.reduceSub, reduceCtorEq, frzLoc, rowCells, vAppM, bne_self_eq_false, beq_self_eq_true, beq_true, beq_false, I, B, w, ibeq, ibne, bbeq, decide_eq_false_iff_not, decide_not, Bool.not_not, Decidable.not_not, Bool.not_eq_eq_eq_not, gt_iff_lt, ge_iff_le, and_false, false_and, or_self, and_self, vf23_res, vf23_keep, *]))
    | (refine ite_go (fun _ => ?_) (fun _ => ?_) <;> try (simp only [go_sem, Nat.max_zero, List.isEmpty_cons, Int.reduceToNat, Nat.reducePow, Int.reduceEq, Int.reduceNe, Int.reduceLT, Int.reduceLE, Nat.reduceAdd, Nat.reduceLeDiff, ↓reduceIte, Nat.reduceLT, Nat.reduceMul, Nat.reduceSub, reduceCtorEq, frzLoc, rowCells, vAppM, bne_self_eq_false, beq_self_eq_true, beq_true, beq_false, I, B, w, ibeq, ibne, bbeq, decide_eq_false_iff_not, decide_not, Bool.not_not, Decidable.not_not, Bool.not_eq_eq_eq_not, gt_iff_lt, ge_iff_le, and_false, false_and, or_self, and_self, vf23_res, vf23_keep, *]))
    | (refine RL_head ?_; simp only [go_sem, Nat.max_zero, List.isEmpty_cons, Int.reduceToNat, Nat.reducePow, Int.reduceEq, Int.reduceNe, Int.reduceLT, Int.reduceLE, Nat.reduceAdd, Nat.reduceLeDiff, ↓reduceIte, Nat.reduceLT, Nat.reduceMul, Nat.reduceSub, reduceCtorEq, frzLoc, rowCells, vAppM, bne_self_eq_false, beq_self_eq_true, beq_true, beq_false, I, B, w, ibeq, ibne, bbeq, decide_eq_false_iff_not, decide_not, Bool.not_not, Decidable.not_not, Bool.not_eq_eq_eq_not, gt_iff_lt, ge_iff_le, and_false, false_and, or_self, and_self, vf23_res, vf23_keep, *, St.head, forget, vf23K0, RLK_some]; refine vf23L0_go ?_)
    | refine RX_loop ?_))
        | true =>
        rw [d2] at c2
        cases d3 : y3.eqb x3 with
        | false =>
          rw [d3] at c3
          simp only [Bool.false_and, Bool.and_false, Bool.true_and, Bool.false_eq_true, if_false, openV, Ik.zero, Ik.ag, Ik.cells, List.map_cons, List.map_nil]
          refine CV_run (vf := vf23) rfl rfl ?_
          rw [vf23_start]
          (repeat' (first
    | refine RX_seq ?_
    | refine RX_block ?_
    | ((first | refine RX_reg ?_ | refine RX_cond' ?_ | refine RX_draw0 ?_ | refine RX_draw rfl ?_ | refine RX_skip ?_ | refine RX_exit ?_ | refine RX_ret ?_); try (simp only [go_sem, Nat.max_zero, List.isEmpty_cons, Int.reduceToNat, Nat.reducePow, Int.reduceEq, Int.reduceNe, Int.reduceLT, Int.reduceLE, Nat.reduceAdd, Nat.reduceLeDiff, ↓reduceIte, Nat.reduceLT, Nat.reduceMul, Nat.reduceSub, reduceCtorEq, frzLoc, rowCells, vAppM, bne_self_eq_false, beq_self_eq_true, beq_true, beq_false, I, B, w, ibeq, ibne, bbeq, decide_eq_false_iff_not, decide_not, Bool.not_not, Decidable.not_not, Bool.not_eq_eq_eq_not, gt_iff_lt, ge_iff_le, and_false, false_and, or_self, and_self, vf23_res, vf23_keep, *]))
    | (refine ite_ngo (fun _ => ?_) (fun _ => ?_) <;> try (simp only [go_sem, Nat.max_zero, List.isEmpty_cons, Int.reduceToNat, Nat.reducePow, Int.reduceEq, Int.reduceNe, Int.reduceLT, Int.reduceLE, Nat.reduceAdd, Nat.reduceLeDiff, ↓reduceIte, Nat.reduceLT, Nat.reduceMul, Nat.reduceSub, reduceCtorEq, frzLoc, rowCells, vAppM, bne_self_eq_false, beq_self_eq_true, beq_true, beq_false, I, B, w, ibeq, ibne, bbeq, decide_eq_false_iff_not, decide_not, Bool.not_not, Decidable.not_not, Bool.not_eq_eq_eq_not, gt_iff_lt, ge_iff_le, and_false, false_and, or_self, and_self, vf23_res, vf23_keep, *]))
    | (refine ite_go (fun _ => ?_) (fun _ => ?_) <;> try (simp only [go_sem, Nat.max_zero, List.isEmpty_cons, Int.reduceToNat, Nat.reducePow, Int.reduceEq, Int.reduceNe, Int.reduceLT, Int.reduceLE, Nat.reduceAdd, Nat.reduceLeDiff, ↓reduceIte, Nat.reduceLT, Nat.reduceMul, Nat.reduceSub, reduceCtorEq, frzLoc, rowCells, vAppM, bne_self_eq_false, beq_self_eq_true, beq_true, beq_false, I, B, w, ibeq, ibne, bbeq, decide_eq_false_iff_not, decide_not, Bool.not_not, Decidable.not_not, Bool.not_eq_eq_eq_not, gt_iff_lt, ge_iff_le, and_false, false_and, or_self, and_self, vf23_res, vf23_keep, *]))
    | (refine RL_head ?_; simp only [go_sem, Nat.max_zero, List.isEmpty_cons, Int.reduceToNat, Nat.reducePow, Int.reduceEq, Int.reduceNe, Int.reduceLT, Int.reduceLE, Nat.reduceAdd, Nat.reduceLeDiff, ↓reduceIte, Nat.reduceLT, Nat.reduceMul, Nat.reduceSub, reduceCtorEq, frzLoc, rowCells, vAppM, bne_self_eq_false, beq_self_eq_true, beq_true, beq_false, I, B, w, ibeq, ibne, bbeq, decide_eq_false_iff_not, decide_not, Bool.not_not, Decidable.not_not, Bool.not_eq_eq_eq_not, gt_iff_lt, ge_iff_le, and_false, false_and, or_self, and_self, vf23_res, vf23_keep, *, St.head, forget, vf23K0, RLK_some]; refine vf23L0_go ?_)
    | refine RX_loop ?_))
        | true =>
        rw [d3] at c3
        cases d4 : y4.eqb x4 with
        | false =>
          rw [d4] at c4
          simp only [Bool.false_and, Bool.and_false, Bool.true_and, Bool.false_eq_true, if_false, openV, Ik.zero, Ik.ag, Ik.cells, List.map_cons, List.map_nil]
          refine CV_run (vf := vf23) rfl rfl ?_
          rw [vf23_start]
          (repeat' (first
    | refine RX_seq ?_
    | refine RX_block ?_
    | ((first | refine RX_reg ?_ | refine RX_cond' ?_ | refine RX_draw0 ?_ | refine RX_draw rfl ?_ | refine RX_skip ?_ | refine RX_exit ?_ | refine RX_ret ?_); try (simp only [go_sem, Nat.max_zero, List.isEmpty_cons, Int.reduceToNat, Nat.reducePow, Int.reduceEq, Int.reduceNe, Int.reduceLT, Int.reduceLE, Nat.reduceAdd, Nat.reduceLeDiff, ↓reduceIte, Nat.reduceLT, Nat.reduceMul, Nat.reduceSub, reduceCtorEq, frzLoc, rowCells, vAppM, bne_self_eq_false, beq_self_eq_true, beq_true, beq_false, I, B, w, ibeq, ibne, bbeq, decide_eq_false_iff_not, decide_not, Bool.not_not, Decidable.not_not, Bool.not_eq_eq_eq_not, gt_iff_lt, ge_iff_le, and_false, false_and, or_self, and_self, vf23_res, vf23_keep, *]))
    | (refine ite_ngo (fun _ => ?_) (fun _ => ?_) <;> try (simp only [go_sem, Nat.max_zero, List.isEmpty_cons, Int.reduceToNat, Nat.reducePow, Int.reduceEq, Int.reduceNe, Int.reduceLT, Int.reduceLE, Nat.reduceAdd, Nat.reduceLeDiff, ↓reduceIte, Nat.reduceLT, Nat.reduceMul, Nat.reduceSub, reduceCtorEq, frzLoc, rowCells, vAppM, bne_self_eq_false, beq_self_eq_true, beq_true, beq_false, I, B, w, ibeq, ibne, bbeq, decide_eq_false_iff_not, decide_not, Bool.not_not, Decidable.not_not, Bool.not_eq_eq_eq_not, gt_iff_lt, ge_iff_le, and_false, false_and, or_self, and_self, vf23_res, vf23_keep, *]))
    | (refine ite_go (fun _ => ?_) (fun _ => ?_) <;> try (simp only [go_sem, Nat.max_zero, List.isEmpty_cons, Int.reduceToNat, Nat.reducePow, Int.reduceEq, Int.reduceNe, Int.reduceLT, Int.reduceLE, Nat.reduceAdd, Nat.reduceLeDiff, ↓reduceIte, Nat.reduceLT, Nat.reduceMul, Nat.reduceSub, reduceCtorEq, frzLoc, rowCells, vAppM, bne_self_eq_false, beq_self_eq_true, beq_true, beq_false, I, B, w, ibeq, ibne, bbeq, decide_eq_false_iff_not, decide_not, Bool.not_not, Decidable.not_not, Bool.not_eq_eq_eq_not, gt_iff_lt, ge_iff_le, and_false, false_and, or_self, and_self, vf23_res, vf23_keep, *]))
    | (refine RL_head ?_; simp only [go_sem, Nat.max_zero, List.isEmpty_cons, Int.reduceToNat, Nat.reducePow, Int.reduceEq, Int.reduceNe, Int.reduceLT, Int.reduceLE, Nat.reduceAdd, Nat.reduceLeDiff, ↓reduceIte, Nat.reduceLT, Nat.reduceMul, Nat.reduceSub, reduceCtorEq, frzLoc, rowCells, vAppM, bne_self_eq_false, beq_self_eq_true, beq_true, beq_false, I, B, w, ibeq, ibne, bbeq, decide_eq_false_iff_not, decide_not, Bool.not_not, Decidable.not_not, Bool.not_eq_eq_eq_not, gt_iff_lt, ge_iff_le, and_false, false_and, or_self, and_self, vf23_res, vf23_keep, *, St.head, forget, vf23K0, RLK_some]; refine vf23L0_go ?_)
    | refine RX_loop ?_))
        | true =>
        rw [d4] at c4
        simp only [Bool.true_and, if_true]
        cases hps : y5.parts with
        | none =>
          rw [hps] at hp
          simp only [partsV, openV, Ik.zero, Ik.ag, Ik.cells, List.map_cons, List.map_nil] at hp ⊢
          refine CV_run (vf := vf23) rfl rfl ?_
          rw [vf23_start]
          (repeat' (first
    | refine RX_seq ?_
    | refine RX_block ?_
    | ((first | refine RX_reg ?_ | refine RX_cond' ?_ | refine RX_draw0 ?_ | refine RX_draw rfl ?_ | refine RX_skip ?_ | refine RX_exit ?_ | refine RX_ret ?_); try (simp only [go_sem, Nat.max_zero, List.isEmpty_cons, Int.reduceToNat, Nat.reducePow, Int.reduceEq, Int.reduceNe, Int.reduceLT, Int.reduceLE, Nat.reduceAdd, Nat.reduceLeDiff, ↓reduceIte, Nat.reduceLT, Nat.reduceMul, Nat.reduceSub, reduceCtorEq, frzLoc, rowCells, vAppM, bne_self_eq_false, beq_self_eq_true, beq_true, beq_false, I, B, w, ibeq, ibne, bbeq, decide_eq_false_iff_not, decide_not, Bool.not_not, Decidable.not_not, Bool.not_eq_eq_eq_not, gt_iff_lt, ge_iff_le, and_false, false_and, or_self, and_self, vf23_res, vf23_keep, *]))
    | (refine ite_ngo (fun _ => ?_) (fun _ => ?_) <;> try (simp only [go_sem, Nat.max_zero, List.isEmpty_cons, Int.reduceToNat, Nat.reducePow, Int.reduceEq, Int.reduceNe, Int.reduceLT, Int.reduceLE, Nat.reduceAdd, Nat.reduceLeDiff, ↓reduceIte, Nat.reduceLT, Nat.reduceMul, Nat.reduceSub, reduceCtorEq, frzLoc, rowCells, vAppM, bne_self_eq_false, beq_self_eq_true, beq_true, beq_false, I, B, w, ibeq, ibne, bbeq, decide_eq_false_iff_not, decide_not, Bool.not_not, Decidable.not_not, Bool.not_eq_eq_eq_not, gt_iff_lt, ge_iff_le, and_false, false_and, or_self, and_self, vf23_res, vf23_keep, *]))
    | (refine ite_go (fun _ => ?_) (fun _ => ?_) <;> try (simp only [go_sem, Nat.max_zero, List.isEmpty_cons, Int.reduceToNat, Nat.reducePow, Int.reduceEq, Int.reduceNe, Int.reduceLT, Int.reduceLE, Nat.reduceAdd, Nat.reduceLeDiff, ↓reduceIte, Nat.reduceLT, Nat.reduceMul, Nat.reduceSub, reduceCtorEq, frzLoc, rowCells, vAppM, bne_self_eq_false, beq_self_eq_true, beq_true, beq_false, I, B, w, ibeq, ibne, bbeq, decide_eq_false_iff_not, decide_not, Bool.not_not, Decidable.not_not, Bool.not_eq_eq_eq_not, gt_iff_lt, ge_iff_le, and_false, false_and, or_self, and_self, vf23_res, vf23_keep, *]))
    | (refine RL_head ?_; simp only [go_sem, Nat.max_zero, List.isEmpty_cons, Int.reduceToNat, Nat.reducePow, Int.reduceEq, Int.reduceNe, Int.reduceLT, Int.reduceLE, Nat.reduceAdd, Nat.reduceLeDiff, ↓reduceIte, Nat.reduceLT, Nat.reduceMul, Nat.reduceSub, reduceCtorEq, frzLoc, rowCells, vAppM, bne_self_eq_false, beq_self_eq_true, beq_true, beq_false, I, B, w, ibeq, ibne, bbeq, decide_eq_false_iff_not, decide_not, Bool.not_not, Decidable.not_not, Bool.not_eq_eq_eq_not, gt_iff_lt, ge_iff_le, and_false, false_and, or_self, and_self, vf23_res, vf23_keep, *, St.head, forget, vf23K0, RLK_some]; refine vf23L0_go ?_)
    | refine RX_loop ?_))
        | some ps =>
          rw [hps] at hp
          simp only [partsV, openV, Ik.zero, Ik.ag, Ik.cells, List.map_cons, List.map_nil] at hp ⊢
          refine CV_run (vf := vf23) rfl rfl ?_
          rw [vf23_start]
          (repeat' (first
    | refine RX_seq ?_
    | refine RX_block ?_
    | ((first | refine RX_reg ?_ | refine RX_cond' ?_ | refine RX_draw0 ?_ | refine RX_draw rfl ?_ | refine RX_skip ?_ | refine RX_exit ?_ | refine RX_ret ?_); try (simp only [go_sem, Nat.max_zero, List.isEmpty_cons, Int.reduceToNat, Nat.reducePow, Int.reduceEq, Int.reduceNe, Int.reduceLT, Int.reduceLE, Nat.reduceAdd, Nat.reduceLeDiff, ↓reduceIte, Nat.reduceLT, Nat.reduceMul, Nat.reduceSub, reduceCtorEq, frzLoc, rowCells, vAppM, bne_self_eq_false, beq_self_eq_true, beq_true, beq_false, I, B, w, ibeq, ibne, bbeq, decide_eq_false_iff_not, decide_not, Bool.not_not, Decidable.not_not, Bool.not_eq_eq_eq_not, gt_iff_lt, ge_iff_le, and_false, false_and, or_self, and_self, vf23_res, vf23_keep, *]))
    | (refine ite_ngo (fun _ => ?_) (fun _ => ?_) <;> try (simp only [go_sem, Nat.max_zero, List.isEmpty_cons, Int.reduceToNat, Nat.reducePow, Int.reduceEq, Int.reduceNe, Int.reduceLT, Int.reduceLE, Nat.reduceAdd, Nat.reduceLeDiff, ↓reduceIte, Nat.reduceLT, Nat.reduceMul, Nat.reduceSub, reduceCtorEq, frzLoc, rowCells, vAppM, bne_self_eq_false, beq_self_eq_true, beq_true, beq_false, I, B, w, ibeq, ibne, bbeq, decide_eq_false_iff_not, decide_not, Bool.not_not, Decidable.not_not, Bool.not_eq_eq_eq_not, gt_iff_lt, ge_iff_le, and_false, false_and, or_self, and_self, vf23_res, vf23_keep, *]))
    | (refine ite_go (fun _ => ?_) (fun _ => ?_) <;> try (simp only [go_sem, Nat.max_zero, List.isEmpty_cons, Int.reduceToNat, Nat.reducePow, Int.reduceEq, Int.reduceNe, Int.reduceLT, Int.reduceLE, Nat.reduceAdd, Nat.reduceLeDiff, ↓reduceIte, Nat.reduceLT, Nat.reduceMul, Nat.reduceSub, reduceCtorEq, frzLoc, rowCells, vAppM, bne_self_eq_false, beq_self_eq_true, beq_true, beq_false, I, B, w, ibeq, ibne, bbeq, decide_eq_false_iff_not, decide_not, Bool.not_not, Decidable.not_not, Bool.not_eq_eq_eq_not, gt_iff_lt, ge_iff_le, and_false, false_and, or_self, and_self, vf23_res, vf23_keep, *]))
    | (refine RL_head ?_; simp only [go_sem, Nat.max_zero, List.isEmpty_cons, Int.reduceToNat, Nat.reducePow, Int.reduceEq, Int.reduceNe, Int.reduceLT, Int.reduceLE, Nat.reduceAdd, Nat.reduceLeDiff, ↓reduceIte, Nat.reduceLT, Nat.reduceMul, Nat.reduceSub, reduceCtorEq, frzLoc, rowCells, vAppM, bne_self_eq_false, beq_self_eq_true, beq_true, beq_false, I, B, w, ibeq, ibne, bbeq, decide_eq_false_iff_not, decide_not, Bool.not_not, Decidable.not_not, Bool.not_eq_eq_eq_not, gt_iff_lt, ge_iff_le, and_false, false_and, or_self, and_self, vf23_res, vf23_keep, *, St.head, forget, vf23K0, RLK_some]; refine vf23L0_go ?_)
    | refine RX_loop ?_))
set_option maxHeartbeats 8000000 in
theorem e61 (key t : Tm) (ht : t.tame) : CV VP 24 [key.ag, t.ag] [] = some ⟨openV (Tm.openK key t), [], [], 0⟩ := by
  have hsh := e59 t (fun u hu => (ht.mem hu).len)
  unfold Tm.openK
  cases hs : t.shape with
  | none =>
    rw [hs] at hsh
    simp only [shapeV, openV, Ik.zero, Ik.ag, Ik.cells, List.map_cons, List.map_nil, Tm.ag] at hsh ⊢
    refine CV_run (vf := vf24) rfl rfl ?_
    rw [vf24_start]
    (repeat' (first
    | refine RX_seq ?_
    | refine RX_block ?_
    | ((first | refine RX_reg ?_ | refine RX_cond' ?_ | refine RX_draw0 ?_ | refine RX_draw rfl ?_ | refine RX_skip ?_ | refine RX_exit ?_ | refine RX_ret ?_); try (simp only [go_sem, Nat.max_zero, List.isEmpty_cons, Int.reduceToNat, Nat.reducePow, Int.reduceEq, Int.reduceNe, Int.reduceLT, Int.reduceLE, Nat.reduceAdd, Nat.reduceLeDiff, ↓reduceIte, Nat.reduceLT, Nat.reduceMul, Nat.reduceSub, reduceCtorEq, frzLoc, rowCells, vAppM, bne_self_eq_false, beq_self_eq_true, beq_true, beq_false, I, B, w, ibeq, ibne, bbeq, decide_eq_false_iff_not, decide_not, Bool.not_not, Decidable.not_not, Bool.not_eq_eq_eq_not, gt_iff_lt, ge_iff_le, and_false, false_and, or_self, and_self, vf24_res, vf24_keep, *]))
    | (refine ite_ngo (fun _ => ?_) (fun _ => ?_) <;> try (simp only [go_sem, Nat.max_zero, List.isEmpty_cons, Int.reduceToNat, Nat.reducePow, Int.reduceEq, Int.reduceNe, Int.reduceLT, Int.reduceLE, Nat.reduceAdd, Nat.reduceLeDiff, ↓reduceIte, Nat.reduceLT, Nat.reduceMul, Nat.reduceSub, reduceCtorEq, frzLoc, rowCells, vAppM, bne_self_eq_false, beq_self_eq_true, beq_true, beq_false, I, B, w, ibeq, ibne, bbeq, decide_eq_false_iff_not, decide_not, Bool.not_not, Decidable.not_not, Bool.not_eq_eq_eq_not, gt_iff_lt, ge_iff_le, and_false, false_and, or_self, and_self, vf24_res, vf24_keep, *]))
    | (refine ite_go (fun _ => ?_) (fun _ => ?_) <;> try (simp only [go_sem, Nat.max_zero, List.isEmpty_cons, Int.reduceToNat, Nat.reducePow, Int.reduceEq, Int.reduceNe, Int.reduceLT, Int.reduceLE, Nat.reduceAdd, Nat.reduceLeDiff, ↓reduceIte, Nat.reduceLT, Nat.reduceMul, Nat.reduceSub, reduceCtorEq, frzLoc, rowCells, vAppM, bne_self_eq_false, beq_self_eq_true, beq_true, beq_false, I, B, w, ibeq, ibne, bbeq, decide_eq_false_iff_not, decide_not, Bool.not_not, Decidable.not_not, Bool.not_eq_eq_eq_not, gt_iff_lt, ge_iff_le, and_false, false_and, or_self, and_self, vf24_res, vf24_keep, *]))))
  | some p =>
    obtain ⟨m, s⟩ := p
    rw [hs] at hsh
    cases s with
    | false =>
      simp only [shapeV, openV, Ik.zero, Ik.ag, Ik.cells, List.map_cons, List.map_nil, Tm.ag] at hsh ⊢
      refine CV_run (vf := vf24) rfl rfl ?_
      rw [vf24_start]
      (repeat' (first
    | refine RX_seq ?_
    | refine RX_block ?_
    | ((first | refine RX_reg ?_ | refine RX_cond' ?_ | refine RX_draw0 ?_ | refine RX_draw rfl ?_ | refine RX_skip ?_ | refine RX_exit ?_ | refine RX_ret ?_); try (simp only [go_sem, Nat.max_zero, List.isEmpty_cons, Int.reduceToNat, Nat.reducePow, Int.reduceEq, Int.reduceNe, Int.reduceLT, Int.reduceLE, Nat.reduceAdd, Nat.reduceLeDiff, ↓reduceIte, Nat.reduceLT, Nat.reduceMul, Nat.reduceSub, reduceCtorEq, frzLoc, rowCells, vAppM, bne_self_eq_false, beq_self_eq_true, beq_true, beq_false, I, B, w, ibeq, ibne, bbeq, decide_eq_false_iff_not, decide_not, Bool.not_not, Decidable.not_not, Bool.not_eq_eq_eq_not, gt_iff_lt, ge_iff_le, and_false, false_and, or_self, and_self, vf24_res, vf24_keep, *]))
    | (refine ite_ngo (fun _ => ?_) (fun _ => ?_) <;> try (simp only [go_sem, Nat.max_zero, List.isEmpty_cons, Int.reduceToNat, Nat.reducePow, Int.reduceEq, Int.reduceNe, Int.reduceLT, Int.reduceLE, Nat.reduceAdd, Nat.reduceLeDiff, ↓reduceIte, Nat.reduceLT, Nat.reduceMul, Nat.reduceSub, reduceCtorEq, frzLoc, rowCells, vAppM, bne_self_eq_false, beq_self_eq_true, beq_true, beq_false, I, B, w, ibeq, ibne, bbeq, decide_eq_false_iff_not, decide_not, Bool.not_not, Decidable.not_not, Bool.not_eq_eq_eq_not, gt_iff_lt, ge_iff_le, and_false, false_and, or_self, and_self, vf24_res, vf24_keep, *]))
    | (refine ite_go (fun _ => ?_) (fun _ => ?_) <;> try (simp only [go_sem, Nat.max_zero, List.isEmpty_cons, Int.reduceToNat, Nat.reducePow, Int.reduceEq, Int.reduceNe, Int.reduceLT, Int.reduceLE, Nat.reduceAdd, Nat.reduceLeDiff, ↓reduceIte, Nat.reduceLT, Nat.reduceMul, Nat.reduceSub, reduceCtorEq, frzLoc, rowCells, vAppM, bne_self_eq_false, beq_self_eq_true, beq_true, beq_false, I, B, w, ibeq, ibne, bbeq, decide_eq_false_iff_not, decide_not, Bool.not_not, Decidable.not_not, Bool.not_eq_eq_eq_not, gt_iff_lt, ge_iff_le, and_false, false_and, or_self, and_self, vf24_res, vf24_keep, *]))))
    | true =>
      obtain ⟨v, x0, x1, x2, x3, x4, rv, k, b, rfl, hm⟩ := shape_sealed hs
      clear hs
      have hk := ht.mem (u := .mk 7 rv [k, b]) (by simp [Tm.args])
      have hb := hk.mem (u := b) (by simp [Tm.args])
      have hu := e100 key (.mk 7 rv [k, b]) (fun u hu => (hk.mem hu).small)
      simp only [Tm.args_mk, List.getD_cons_succ, List.getD_cons_zero, shapeV, Tm.ag, Tm.op_mk, Tm.val_mk, Ik.ag, Ik.cells, List.map_cons, List.map_nil, Tm.row_eq] at hsh hu ⊢
      obtain ⟨mk, ms, mr, mrep, mini, mid, mps⟩ := m
      simp only at hm
      subst hm
      simp only [List.map_nil] at hsh
      cases huu : Tm.unseal key (.mk 7 rv [k, b]) with
      | none =>
        rw [huu] at hu
        simp only [unsV, Tm.zero, Tm.ag, Tm.op_mk, Tm.val_mk, Tm.args_mk, List.map_nil, openB, openV, Ik.zero, Ik.ag, Ik.cells, List.map_cons] at hu ⊢
        refine CV_run (vf := vf24) rfl rfl ?_
        rw [vf24_start]
        (repeat' (first
    | refine RX_seq ?_
    | refine RX_block ?_
    | ((first | refine RX_reg ?_ | refine RX_cond' ?_ | refine RX_draw0 ?_ | refine RX_draw rfl ?_ | refine RX_skip ?_ | refine RX_exit ?_ | refine RX_ret ?_); try (simp only [go_sem, Nat.max_zero, List.isEmpty_cons, Int.reduceToNat, Nat.reducePow, Int.reduceEq, Int.reduceNe, Int.reduceLT, Int.reduceLE, Nat.reduceAdd, Nat.reduceLeDiff, ↓reduceIte, Nat.reduceLT, Nat.reduceMul, Nat.reduceSub, reduceCtorEq, frzLoc, rowCells, vAppM, bne_self_eq_false, beq_self_eq_true, beq_true, beq_false, I, B, w, ibeq, ibne, bbeq, decide_eq_false_iff_not, decide_not, Bool.not_not, Decidable.not_not, Bool.not_eq_eq_eq_not, gt_iff_lt, ge_iff_le, and_false, false_and, or_self, and_self, vf24_res, vf24_keep, *]))
    | (refine ite_ngo (fun _ => ?_) (fun _ => ?_) <;> try (simp only [go_sem, Nat.max_zero, List.isEmpty_cons, Int.reduceToNat, Nat.reducePow, Int.reduceEq, Int.reduceNe, Int.reduceLT, Int.reduceLE, Nat.reduceAdd, Nat.reduceLeDiff, ↓reduceIte, Nat.reduceLT, Nat.reduceMul, Nat.reduceSub, reduceCtorEq, frzLoc, rowCells, vAppM, bne_self_eq_false, beq_self_eq_true, beq_true, beq_false, I, B, w, ibeq, ibne, bbeq, decide_eq_false_iff_not, decide_not, Bool.not_not, Decidable.not_not, Bool.not_eq_eq_eq_not, gt_iff_lt, ge_iff_le, and_false, false_and, or_self, and_self, vf24_res, vf24_keep, *]))
    | (refine ite_go (fun _ => ?_) (fun _ => ?_) <;> try (simp only [go_sem, Nat.max_zero, List.isEmpty_cons, Int.reduceToNat, Nat.reducePow, Int.reduceEq, Int.reduceNe, Int.reduceLT, Int.reduceLE, Nat.reduceAdd, Nat.reduceLeDiff, ↓reduceIte, Nat.reduceLT, Nat.reduceMul, Nat.reduceSub, reduceCtorEq, frzLoc, rowCells, vAppM, bne_self_eq_false, beq_self_eq_true, beq_true, beq_false, I, B, w, ibeq, ibne, bbeq, decide_eq_false_iff_not, decide_not, Bool.not_not, Decidable.not_not, Bool.not_eq_eq_eq_not, gt_iff_lt, ge_iff_le, and_false, false_and, or_self, and_self, vf24_res, vf24_keep, *]))))
      | some bb =>
        have hbb : bb = b := by
          unfold Tm.unseal at huu
          simp only at huu
          split at huu
          · cases huu; rfl
          · cases huu
        subst hbb
        rw [huu] at hu
        clear huu hk ht
        obtain ⟨bo, bv, L⟩ := bb
        simp only [unsV, Tm.zero, Tm.ag, Tm.op_mk, Tm.val_mk, Tm.args_mk, openB] at hsh hu ⊢
        by_cases ho : bo = 3
        case neg =>
          simp only [ho, false_and, if_false, openV, Ik.zero, Ik.ag, Ik.cells, List.map_cons, List.map_nil]
          refine CV_run (vf := vf24) rfl rfl ?_
          rw [vf24_start]
          (repeat' (first
    | refine RX_seq ?_
    | refine RX_block ?_
    | ((first | refine RX_reg ?_ | refine RX_cond' ?_ | refine RX_draw0 ?_ | refine RX_draw rfl ?_ | refine RX_skip ?_ | refine RX_exit ?_ | refine RX_ret ?_); try (simp only [go_sem, Nat.max_zero, List.isEmpty_cons, Int.reduceToNat, Nat.reducePow, Int.reduceEq, Int.reduceNe, Int.reduceLT, Int.reduceLE, Nat.reduceAdd, Nat.reduceLeDiff, ↓reduceIte, Nat.reduceLT, Nat.reduceMul, Nat.reduceSub, reduceCtorEq, frzLoc, rowCells, vAppM, bne_self_eq_false, beq_self_eq_true, beq_true, beq_false, I, B, w, ibeq, ibne, bbeq, decide_eq_false_iff_not, decide_not, Bool.not_not, Decidable.not_not, Bool.not_eq_eq_eq_not, gt_iff_lt, ge_iff_le, and_false, false_and, or_self, and_self, vf24_res, vf24_keep, List.length_map, *]))
    | (refine ite_ngo (fun _ => ?_) (fun _ => ?_) <;> try (simp only [go_sem, Nat.max_zero, List.isEmpty_cons, Int.reduceToNat, Nat.reducePow, Int.reduceEq, Int.reduceNe, Int.reduceLT, Int.reduceLE, Nat.reduceAdd, Nat.reduceLeDiff, ↓reduceIte, Nat.reduceLT, Nat.reduceMul, Nat.reduceSub, reduceCtorEq, frzLoc, rowCells, vAppM, bne_self_eq_false, beq_self_eq_true, beq_true, beq_false, I, B, w, ibeq, ibne, bbeq, decide_eq_false_iff_not, decide_not, Bool.not_not, Decidable.not_not, Bool.not_eq_eq_eq_not, gt_iff_lt, ge_iff_le, and_false, false_and, or_self, and_self, vf24_res, vf24_keep, List.length_map, *]))
    | (refine ite_go (fun _ => ?_) (fun _ => ?_) <;> try (simp only [go_sem, Nat.max_zero, List.isEmpty_cons, Int.reduceToNat, Nat.reducePow, Int.reduceEq, Int.reduceNe, Int.reduceLT, Int.reduceLE, Nat.reduceAdd, Nat.reduceLeDiff, ↓reduceIte, Nat.reduceLT, Nat.reduceMul, Nat.reduceSub, reduceCtorEq, frzLoc, rowCells, vAppM, bne_self_eq_false, beq_self_eq_true, beq_true, beq_false, I, B, w, ibeq, ibne, bbeq, decide_eq_false_iff_not, decide_not, Bool.not_not, Decidable.not_not, Bool.not_eq_eq_eq_not, gt_iff_lt, ge_iff_le, and_false, false_and, or_self, and_self, vf24_res, vf24_keep, List.length_map, *]))))
        subst ho
        by_cases hl : L.length = 6
        case neg =>
          have hl2 : ¬ (L.length : Int) = 6 := by omega
          simp only [hl, true_and, false_and, if_false, openV, Ik.zero, Ik.ag, Ik.cells, List.map_cons, List.map_nil]
          refine CV_run (vf := vf24) rfl rfl ?_
          rw [vf24_start]
          (repeat' (first
    | refine RX_seq ?_
    | refine RX_block ?_
    | ((first | refine RX_reg ?_ | refine RX_cond' ?_ | refine RX_draw0 ?_ | refine RX_draw rfl ?_ | refine RX_skip ?_ | refine RX_exit ?_ | refine RX_ret ?_); try (simp only [go_sem, Nat.max_zero, List.isEmpty_cons, Int.reduceToNat, Nat.reducePow, Int.reduceEq, Int.reduceNe, Int.reduceLT, Int.reduceLE, Nat.reduceAdd, Nat.reduceLeDiff, ↓reduceIte, Nat.reduceLT, Nat.reduceMul, Nat.reduceSub, reduceCtorEq, frzLoc, rowCells, vAppM, bne_self_eq_false, beq_self_eq_true, beq_true, beq_false, I, B, w, ibeq, ibne, bbeq, decide_eq_false_iff_not, decide_not, Bool.not_not, Decidable.not_not, Bool.not_eq_eq_eq_not, gt_iff_lt, ge_iff_le, and_false, false_and, or_self, and_self, vf24_res, vf24_keep, List.length_map, *]))
    | (refine ite_ngo (fun _ => ?_) (fun _ => ?_) <;> try (simp only [go_sem, Nat.max_zero, List.isEmpty_cons, Int.reduceToNat, Nat.reducePow, Int.reduceEq, Int.reduceNe, Int.reduceLT, Int.reduceLE, Nat.reduceAdd, Nat.reduceLeDiff, ↓reduceIte, Nat.reduceLT, Nat.reduceMul, Nat.reduceSub, reduceCtorEq, frzLoc, rowCells, vAppM, bne_self_eq_false, beq_self_eq_true, beq_true, beq_false, I, B, w, ibeq, ibne, bbeq, decide_eq_false_iff_not, decide_not, Bool.not_not, Decidable.not_not, Bool.not_eq_eq_eq_not, gt_iff_lt, ge_iff_le, and_false, false_and, or_self, and_self, vf24_res, vf24_keep, List.length_map, *]))
    | (refine ite_go (fun _ => ?_) (fun _ => ?_) <;> try (simp only [go_sem, Nat.max_zero, List.isEmpty_cons, Int.reduceToNat, Nat.reducePow, Int.reduceEq, Int.reduceNe, Int.reduceLT, Int.reduceLE, Nat.reduceAdd, Nat.reduceLeDiff, ↓reduceIte, Nat.reduceLT, Nat.reduceMul, Nat.reduceSub, reduceCtorEq, frzLoc, rowCells, vAppM, bne_self_eq_false, beq_self_eq_true, beq_true, beq_false, I, B, w, ibeq, ibne, bbeq, decide_eq_false_iff_not, decide_not, Bool.not_not, Decidable.not_not, Bool.not_eq_eq_eq_not, gt_iff_lt, ge_iff_le, and_false, false_and, or_self, and_self, vf24_res, vf24_keep, List.length_map, *]))))
        obtain ⟨y0, y1, y2, y3, y4, y5, rfl⟩ := list6 L hl
        clear hl
        have hp := e97 y5 (hb.mem (u := y5) (by simp [Tm.args])).len
        have c0 := e26 [y0, y1, y2, y3, y4] [x0, x1, x2, x3, x4] (by simp) ⟨(hb.mem (u := y0) (by simp [Tm.args])).small, (hb.mem (u := y1) (by simp [Tm.args])).small, (hb.mem (u := y2) (by simp [Tm.args])).small, (hb.mem (u := y3) (by simp [Tm.args])).small, (hb.mem (u := y4) (by simp [Tm.args])).small, trivial⟩
        clear hb
        simp only [List.length_cons, List.length_nil, Nat.zero_add, Nat.reduceAdd, true_and, List.take_succ_cons, List.take_zero, List.getD_cons_succ, List.getD_cons_zero, List.map_cons, List.map_nil, Tm.row_eq, Tm.ag] at hp c0 hu hsh ⊢
        have w0 : IntKind.i64.wrap (0 + 1) = 1 := rfl
        have w1 : IntKind.i64.wrap (1 + 1) = 2 := rfl
        have w2 : IntKind.i64.wrap (2 + 1) = 3 := rfl
        have w3 : IntKind.i64.wrap (3 + 1) = 4 := rfl
        have w4 : IntKind.i64.wrap (4 + 1) = 5 := rfl
        cases d0 : Tm.eqbs [y0, y1, y2, y3, y4] [x0, x1, x2, x3, x4] with
        | false =>
          rw [d0] at c0
          simp only [Bool.false_eq_true, if_false, openV, Ik.zero, Ik.ag, Ik.cells, List.map_cons, List.map_nil]
          refine CV_run (vf := vf24) rfl rfl ?_
          rw [vf24_start]
          (repeat' (first
    | refine RX_seq ?_
    | refine RX_block ?_
    | ((first | refine RX_reg ?_ | refine RX_cond' ?_ | refine RX_draw0 ?_ | refine RX_draw rfl ?_ | refine RX_skip ?_ | refine RX_exit ?_ | refine RX_ret ?_); try (simp only [go_sem, Nat.max_zero, List.isEmpty_cons, Int.reduceToNat, Nat.reducePow, Int.reduceEq, Int.reduceNe, Int.reduceLT, Int.reduceLE, Nat.reduceAdd, Nat.reduceLeDiff, ↓reduceIte, Nat.reduceLT, Nat.reduceMul, Nat.reduceSub, reduceCtorEq, frzLoc, rowCells, vAppM, bne_self_eq_false, beq_self_eq_true, beq_true, beq_false, I, B, w, ibeq, ibne, bbeq, decide_eq_false_iff_not, decide_not, Bool.not_not, Decidable.not_not, Bool.not_eq_eq_eq_not, gt_iff_lt, ge_iff_le, and_false, false_and, or_self, and_self, vf24_res, vf24_keep, *]))
    | (refine ite_ngo (fun _ => ?_) (fun _ => ?_) <;> try (simp only [go_sem, Nat.max_zero, List.isEmpty_cons, Int.reduceToNat, Nat.reducePow, Int.reduceEq, Int.reduceNe, Int.reduceLT, Int.reduceLE, Nat.reduceAdd, Nat.reduceLeDiff, ↓reduceIte, Nat.reduceLT, Nat.reduceMul, Nat.reduceSub, reduceCtorEq, frzLoc, rowCells, vAppM, bne_self_eq_false, beq_self_eq_true, beq_true, beq_false, I, B, w, ibeq, ibne, bbeq, decide_eq_false_iff_not, decide_not, Bool.not_not, Decidable.not_not, Bool.not_eq_eq_eq_not, gt_iff_lt, ge_iff_le, and_false, false_and, or_self, and_self, vf24_res, vf24_keep, *]))
    | (refine ite_go (fun _ => ?_) (fun _ => ?_) <;> try (simp only [go_sem, Nat.max_zero, List.isEmpty_cons, Int.reduceToNat, Nat.reducePow, Int.reduceEq, Int.reduceNe, Int.reduceLT, Int.reduceLE, Nat.reduceAdd, Nat.reduceLeDiff, ↓reduceIte, Nat.reduceLT, Nat.reduceMul, Nat.reduceSub, reduceCtorEq, frzLoc, rowCells, vAppM, bne_self_eq_false, beq_self_eq_true, beq_true, beq_false, I, B, w, ibeq, ibne, bbeq, decide_eq_false_iff_not, decide_not, Bool.not_not, Decidable.not_not, Bool.not_eq_eq_eq_not, gt_iff_lt, ge_iff_le, and_false, false_and, or_self, and_self, vf24_res, vf24_keep, *]))))
        | true =>
        rw [d0] at c0
        simp only [Bool.true_and, if_true]
        cases hps : y5.parts with
        | none =>
          rw [hps] at hp
          simp only [partsV, openV, Ik.zero, Ik.ag, Ik.cells, List.map_cons, List.map_nil] at hp ⊢
          refine CV_run (vf := vf24) rfl rfl ?_
          rw [vf24_start]
          (repeat' (first
    | refine RX_seq ?_
    | refine RX_block ?_
    | ((first | refine RX_reg ?_ | refine RX_cond' ?_ | refine RX_draw0 ?_ | refine RX_draw rfl ?_ | refine RX_skip ?_ | refine RX_exit ?_ | refine RX_ret ?_); try (simp only [go_sem, Nat.max_zero, List.isEmpty_cons, Int.reduceToNat, Nat.reducePow, Int.reduceEq, Int.reduceNe, Int.reduceLT, Int.reduceLE, Nat.reduceAdd, Nat.reduceLeDiff, ↓reduceIte, Nat.reduceLT, Nat.reduceMul, Nat.reduceSub, reduceCtorEq, frzLoc, rowCells, vAppM, bne_self_eq_false, beq_self_eq_true, beq_true, beq_false, I, B, w, ibeq, ibne, bbeq, decide_eq_false_iff_not, decide_not, Bool.not_not, Decidable.not_not, Bool.not_eq_eq_eq_not, gt_iff_lt, ge_iff_le, and_false, false_and, or_self, and_self, vf24_res, vf24_keep, *]))
    | (refine ite_ngo (fun _ => ?_) (fun _ => ?_) <;> try (simp only [go_sem, Nat.max_zero, List.isEmpty_cons, Int.reduceToNat, Nat.reducePow, Int.reduceEq, Int.reduceNe, Int.reduceLT, Int.reduceLE, Nat.reduceAdd, Nat.reduceLeDiff, ↓reduceIte, Nat.reduceLT, Nat.reduceMul, Nat.reduceSub, reduceCtorEq, frzLoc, rowCells, vAppM, bne_self_eq_false, beq_self_eq_true, beq_true, beq_false, I, B, w, ibeq, ibne, bbeq, decide_eq_false_iff_not, decide_not, Bool.not_not, Decidable.not_not, Bool.not_eq_eq_eq_not, gt_iff_lt, ge_iff_le, and_false, false_and, or_self, and_self, vf24_res, vf24_keep, *]))
    | (refine ite_go (fun _ => ?_) (fun _ => ?_) <;> try (simp only [go_sem, Nat.max_zero, List.isEmpty_cons, Int.reduceToNat, Nat.reducePow, Int.reduceEq, Int.reduceNe, Int.reduceLT, Int.reduceLE, Nat.reduceAdd, Nat.reduceLeDiff, ↓reduceIte, Nat.reduceLT, Nat.reduceMul, Nat.reduceSub, reduceCtorEq, frzLoc, rowCells, vAppM, bne_self_eq_false, beq_self_eq_true, beq_true, beq_false, I, B, w, ibeq, ibne, bbeq, decide_eq_false_iff_not, decide_not, Bool.not_not, Decidable.not_not, Bool.not_eq_eq_eq_not, gt_iff_lt, ge_iff_le, and_false, false_and, or_self, and_self, vf24_res, vf24_keep, *]))))
        | some ps =>
          rw [hps] at hp
          simp only [partsV, openV, Ik.zero, Ik.ag, Ik.cells, List.map_cons, List.map_nil] at hp ⊢
          refine CV_run (vf := vf24) rfl rfl ?_
          rw [vf24_start]
          (repeat' (first
    | refine RX_seq ?_
    | refine RX_block ?_
    | ((first | refine RX_reg ?_ | refine RX_cond' ?_ | refine RX_draw0 ?_ | refine RX_draw rfl ?_ | refine RX_skip ?_ | refine RX_exit ?_ | refine RX_ret ?_); try (simp only [go_sem, Nat.max_zero, List.isEmpty_cons, Int.reduceToNat, Nat.reducePow, Int.reduceEq, Int.reduceNe, Int.reduceLT, Int.reduceLE, Nat.reduceAdd, Nat.reduceLeDiff, ↓reduceIte, Nat.reduceLT, Nat.reduceMul, Nat.reduceSub, reduceCtorEq, frzLoc, rowCells, vAppM, bne_self_eq_false, beq_self_eq_true, beq_true, beq_false, I, B, w, ibeq, ibne, bbeq, decide_eq_false_iff_not, decide_not, Bool.not_not, Decidable.not_not, Bool.not_eq_eq_eq_not, gt_iff_lt, ge_iff_le, and_false, false_and, or_self, and_self, vf24_res, vf24_keep, *]))
    | (refine ite_ngo (fun _ => ?_) (fun _ => ?_) <;> try (simp only [go_sem, Nat.max_zero, List.isEmpty_cons, Int.reduceToNat, Nat.reducePow, Int.reduceEq, Int.reduceNe, Int.reduceLT, Int.reduceLE, Nat.reduceAdd, Nat.reduceLeDiff, ↓reduceIte, Nat.reduceLT, Nat.reduceMul, Nat.reduceSub, reduceCtorEq, frzLoc, rowCells, vAppM, bne_self_eq_false, beq_self_eq_true, beq_true, beq_false, I, B, w, ibeq, ibne, bbeq, decide_eq_false_iff_not, decide_not, Bool.not_not, Decidable.not_not, Bool.not_eq_eq_eq_not, gt_iff_lt, ge_iff_le, and_false, false_and, or_self, and_self, vf24_res, vf24_keep, *]))
    | (refine ite_go (fun _ => ?_) (fun _ => ?_) <;> try (simp only [go_sem, Nat.max_zero, List.isEmpty_cons, Int.reduceToNat, Nat.reducePow, Int.reduceEq, Int.reduceNe, Int.reduceLT, Int.reduceLE, Nat.reduceAdd, Nat.reduceLeDiff, ↓reduceIte, Nat.reduceLT, Nat.reduceMul, Nat.reduceSub, reduceCtorEq, frzLoc, rowCells, vAppM, bne_self_eq_false, beq_self_eq_true, beq_true, beq_false, I, B, w, ibeq, ibne, bbeq, decide_eq_false_iff_not, decide_not, Bool.not_not, Decidable.not_not, Bool.not_eq_eq_eq_not, gt_iff_lt, ge_iff_le, and_false, false_and, or_self, and_self, vf24_res, vf24_keep, *]))))
end Go.Proofs.Ytjhfakhmflemmaa

namespace Go.Proofs.Ytjhfakhmflemmaa
open Go.VM
/-- the box of the parts that are drawn -/
def paB (l : List Int) (s : Int) (b : Bx) (k : Nat) : Bx × Nat := (if nxV l (bxF l s k).2 2 = 1 then b.swap else (bxF l s k).1.swap, nxA l (bxF l s k).2)
/-- the parts that are drawn -/
def paS (l : List Int) (s : Int) (b : Bx) (k : Nat) : List Tm × Nat := drC (paF l s (paB l s b k).1) ((nxV l (paB l s b k).2 6).toNat + 1) (nxA l (paB l s b k).2)
set_option maxRecDepth 20000 in
set_option maxHeartbeats 8000000 in
theorem e37 {l : List Int} (hB : Bytes l) (g : Gw) (hk0 : g.kids = []) (hs : g.id = 0 ∨ g.id = 1) {n : Nat} (hn : n < 1000) (hn1 : g.rules.length = n + 1) {r : Ru} (hr : g.rules[n]? = some r) {b : Bx} {bs : List Bx} (hb : r.bs = b :: bs) (id k : Nat) : ∀ bl, CtxOk bl id →
    CV VP 52 [.ptr id 0, g.ag] (cx bl id l (k : Nat) []) = some ⟨.d (.sl ((paS l g.id b k).1.map Tm.row)), cx bl id l ((paS l g.id b k).2 : Nat) [], [], 0⟩ := by
  intro bl h
  obtain ⟨gid, gpeer, gloc, grem, grules, ggroups, gnow, gcount, gguard, gvault, gredir, ghalf, gsas, gkids, gtickets⟩ := g
  simp only at hk0 hs hn1 hr ⊢
  subst hk0
  have cN : ∀ (n : Int), 0 < n → n ≤ 256 → ∀ (k : Nat) (own : List (List V)), own.map V.erL = own → own.all (V.ltbL (bl.length + own.length)) = true → CV VP 17 [.ptr id 0, .d (I n)] (cx bl id l (k : Nat) own) = some ⟨.d (I (nxV l k n)), cx bl id l (nxA l k : Nat) own, [], 0⟩ := fun n h1 h2 k own => e29 hB h h1 h2
  have c2 := cN 2 (by decide) (by decide)
  have c6 := cN 6 (by decide) (by decide)
  have cB : ∀ (own : List (List V)), own.map V.erL = own → own.all (V.ltbL (bl.length + own.length)) = true → CV VP 26 [.ptr id 0, .d (I gid)] (cx bl id l (k : Nat) own) = some ⟨(bxF l gid k).1.ag, cx bl id l ((bxF l gid k).2 : Nat) own, [], 0⟩ := fun own => cx_lift ((bxF_ok hB gid (by omega) (by omega) k).2 id) h
  have h51a := e51 (bxF l gid k).1
  have h51b := e51 b
  have hrow : (grules.map Ru.row)[n]? = some [I r.act, .lit (.string r.tm), .sl (b.row :: bs.map Bx.row)] := by rw [List.getElem?_map, hr]; simp [Ru.row, hb]
  have hwn : IntKind.i64.wrap (((n + 1 : Nat) : Int) - 1) = (n : Int) := by rw [w_in (by omega) (by omega)]; omega
  have hps : (0 : Int) < ((n + 1 : Nat) : Int) := by omega
  have hps2 : (0 : Int) < ((bs.length + 1 : Nat) : Int) := by omega
  have hlt : n < n + 1 := by omega
  have r6 := nxV_range hB (k := (paB l gid b k).2) (n := 6) (by decide)
  obtain ⟨x, hx⟩ : ∃ x : Nat, nxV l (paB l gid b k).2 6 = (x : Int) := ⟨_, (Int.toNat_of_nonneg r6.1).symm⟩
  have hx6 : x < 6 := by omega
  have hid := h.lt
  have hb2 : bl.length < bl.length + 2 := by omega
  have hb3 : bl.length + 1 < bl.length + 2 := by omega
  have hid2 : id < bl.length + 2 := by omega
  have e1x : ((x + 1 : Nat) : Int) - 1 = (x : Int) := by omega
  clear cN hr hb hn r6
  have fin := fun gt hgc hgl bx (Q : VExit → St → Prop) kk st hat hQ => L37 hB gid hs gt hgc hgl bx id h (Q := Q) (x + 1) kk [] .nil [] 0 (by omega) (by simp; omega) (.inl ⟨rfl, rfl, rfl⟩) st hat hQ
  simp only [paS, hx, Int.toNat_natCast]
  rw [paB] at hx
  simp only at hx
  unfold paB
  refine CV_run (vf := vf52) rfl rfl ?_
  rw [vf52_start]
  simp only [Gw.ag, Gw.cells, List.map_cons, List.map_nil]
  rw [e1x] at fin
  by_cases h2 : nxV l (bxF l gid k).2 2 = 1
  · simp only [h2, if_true]
    (repeat (first
    | refine RX_seq ?_
    | refine RX_block ?_
    | ((first | refine RX_reg ?_ | refine RX_cond' ?_ | refine RX_draw0 ?_ | refine RX_draw rfl ?_ | refine RX_skip ?_ | refine RX_exit ?_ | refine RX_ret ?_); try (simp only [go_sem, Nat.max_zero, List.isEmpty_cons, Int.reduceToNat, Nat.reducePow, Int.reduceEq, Int.reduceNe, Int.reduceLT, Int.reduceLE, Nat.reduceAdd, Nat.reduceLeDiff, ↓reduceIte, Nat.reduceLT, Nat.reduceMul, Nat.reduceSub, reduceCtorEq, frzLoc, rowCells, vAppM, beq_iff_eq, bne_iff_ne, bne_self_eq_false, beq_self_eq_true, beq_true, beq_false, I, B, w, vf52_res, vf52_keep, cx_len, cx_app, cx_own0, cx_own, cx_setOwn0, cx_setOwn, cx_take, cx_takeN, Nat.add_right_cancel_iff, Nat.lt_irrefl, cx_nlt, Nat.not_lt_zero, cx_get' h, cx_setId' h, cx_er h, cx_all0 h, cx_all h, CtxOk.lt h, CtxOk.ne0 h, c2, c6, cB, h51a, h51b, hrow, hwn, hps, hps2, hlt, hid, hb2, hb3, hid2, hn1, hx, h2, ibeq, gt_iff_lt, List.length_map]))))
    refine RX_loopN (n := bl.length + 2) (by simp [cx_len]) ?_
    refine fin _ rfl (fun n => rfl) b.swap _ _ _ ⟨rfl, by first | rfl | (simp only [cx_takeN, List.take_succ_cons, List.take_zero]; done) | (simp only [cx_takeN, List.take_succ_cons, List.take_zero]; rfl), rfl, rfl, by simp [cx_len], rfl⟩ ?_
    rintro v live gn st hv hat
    rw [List.nil_append] at hv
    have hm1 : ¬ (0 : Int) ≤ -1 := by decide
    rcases hv with ⟨rfl, rfl, hr0⟩ | ⟨g, rfl, rfl⟩
    · refine RL_at hat (by (simp only [go_sem, Nat.max_zero, List.isEmpty_cons, Int.reduceToNat, Nat.reducePow, Int.reduceEq, Int.reduceNe, Int.reduceLT, Int.reduceLE, Nat.reduceAdd, Nat.reduceLeDiff, ↓reduceIte, Nat.reduceLT, Nat.reduceMul, Nat.reduceSub, reduceCtorEq, frzLoc, rowCells, vAppM, beq_iff_eq, bne_iff_ne, bne_self_eq_false, beq_self_eq_true, beq_true, beq_false, I, B, w, cx_len, cx_app, cx_own0, cx_own, cx_setOwn0, cx_setOwn, cx_take, cx_takeN, Nat.add_right_cancel_iff, Nat.lt_irrefl, cx_nlt, Nat.not_lt_zero, cx_get' h, cx_setId' h, cx_er h, cx_all0 h, cx_all h, CtxOk.lt h, CtxOk.ne0 h, hb2, hb3, hid2])) (by (simp only [go_sem, Nat.max_zero, List.isEmpty_cons, Int.reduceToNat, Nat.reducePow, Int.reduceEq, Int.reduceNe, Int.reduceLT, Int.reduceLE, Nat.reduceAdd, Nat.reduceLeDiff, ↓reduceIte, Nat.reduceLT, Nat.reduceMul, Nat.reduceSub, reduceCtorEq, frzLoc, rowCells, vAppM, beq_iff_eq, bne_iff_ne, bne_self_eq_false, beq_self_eq_true, beq_true, beq_false, I, B, w, cx_len, cx_app, cx_own0, cx_own, cx_setOwn0, cx_setOwn, cx_take, cx_takeN, Nat.add_right_cancel_iff, Nat.lt_irrefl, cx_nlt, Nat.not_lt_zero, cx_get' h, cx_setId' h, cx_er h, cx_all0 h, cx_all h, CtxOk.lt h, CtxOk.ne0 h, hb2, hb3, hid2])) (vf52L0_go ?_)
      (repeat (first
    | refine RX_seq ?_
    | refine RX_block ?_
    | ((first | refine RX_reg ?_ | refine RX_cond' ?_ | refine RX_draw0 ?_ | refine RX_draw rfl ?_ | refine RX_skip ?_ | refine RX_exit ?_ | refine RX_ret ?_); try (simp only [go_sem, Nat.max_zero, List.isEmpty_cons, Int.reduceToNat, Nat.reducePow, Int.reduceEq, Int.reduceNe, Int.reduceLT, Int.reduceLE, Nat.reduceAdd, Nat.reduceLeDiff, ↓reduceIte, Nat.reduceLT, Nat.reduceMul, Nat.reduceSub, reduceCtorEq, frzLoc, rowCells, vAppM, beq_iff_eq, bne_iff_ne, bne_self_eq_false, beq_self_eq_true, beq_true, beq_false, I, B, w, vf52_res, vf52_keep, cx_len, cx_app, cx_own0, cx_own, cx_setOwn0, cx_setOwn, cx_take, cx_takeN, Nat.add_right_cancel_iff, Nat.lt_irrefl, cx_nlt, Nat.not_lt_zero, cx_get' h, cx_setId' h, cx_er h, cx_all0 h, cx_all h, CtxOk.lt h, CtxOk.ne0 h, hid, hb2, hb3, hid2, hm1, ge_iff_le, hr0]))))
    · refine RL_at hat (by (simp only [go_sem, Nat.max_zero, List.isEmpty_cons, Int.reduceToNat, Nat.reducePow, Int.reduceEq, Int.reduceNe, Int.reduceLT, Int.reduceLE, Nat.reduceAdd, Nat.reduceLeDiff, ↓reduceIte, Nat.reduceLT, Nat.reduceMul, Nat.reduceSub, reduceCtorEq, frzLoc, rowCells, vAppM, beq_iff_eq, bne_iff_ne, bne_self_eq_false, beq_self_eq_true, beq_true, beq_false, I, B, w, cx_len, cx_app, cx_own0, cx_own, cx_setOwn0, cx_setOwn, cx_take, cx_takeN, Nat.add_right_cancel_iff, Nat.lt_irrefl, cx_nlt, Nat.not_lt_zero, cx_get' h, cx_setId' h, cx_er h, cx_all0 h, cx_all h, CtxOk.lt h, CtxOk.ne0 h, hb2, hb3, hid2])) (by (simp only [go_sem, Nat.max_zero, List.isEmpty_cons, Int.reduceToNat, Nat.reducePow, Int.reduceEq, Int.reduceNe, Int.reduceLT, Int.reduceLE, Nat.reduceAdd, Nat.reduceLeDiff, ↓reduceIte, Nat.reduceLT, Nat.reduceMul, Nat.reduceSub, reduceCtorEq, frzLoc, rowCells, vAppM, beq_iff_eq, bne_iff_ne, bne_self_eq_false, beq_self_eq_true, beq_true, beq_false, I, B, w, cx_len, cx_app, cx_own0, cx_own, cx_setOwn0, cx_setOwn, cx_take, cx_takeN, Nat.add_right_cancel_iff, Nat.lt_irrefl, cx_nlt, Nat.not_lt_zero, cx_get' h, cx_setId' h, cx_er h, cx_all0 h, cx_all h, CtxOk.lt h, CtxOk.ne0 h, hb2, hb3, hid2])) (vf52L0_go ?_)
      (repeat (first
    | refine RX_seq ?_
    | refine RX_block ?_
    | ((first | refine RX_reg ?_ | refine RX_cond' ?_ | refine RX_draw0 ?_ | refine RX_draw rfl ?_ | refine RX_skip ?_ | refine RX_exit ?_ | refine RX_ret ?_); try (simp only [go_sem, Nat.max_zero, List.isEmpty_cons, Int.reduceToNat, Nat.reducePow, Int.reduceEq, Int.reduceNe, Int.reduceLT, Int.reduceLE, Nat.reduceAdd, Nat.reduceLeDiff, ↓reduceIte, Nat.reduceLT, Nat.reduceMul, Nat.reduceSub, reduceCtorEq, frzLoc, rowCells, vAppM, beq_iff_eq, bne_iff_ne, bne_self_eq_false, beq_self_eq_true, beq_true, beq_false, I, B, w, vf52_res, vf52_keep, cx_len, cx_app, cx_own0, cx_own, cx_setOwn0, cx_setOwn, cx_take, cx_takeN, Nat.add_right_cancel_iff, Nat.lt_irrefl, cx_nlt, Nat.not_lt_zero, cx_get' h, cx_setId' h, cx_er h, cx_all0 h, cx_all h, CtxOk.lt h, CtxOk.ne0 h, hid, hb2, hb3, hid2, hm1, ge_iff_le]))))
  · simp only [h2, if_false]
    (repeat (first
    | refine RX_seq ?_
    | refine RX_block ?_
    | ((first | refine RX_reg ?_ | refine RX_cond' ?_ | refine RX_draw0 ?_ | refine RX_draw rfl ?_ | refine RX_skip ?_ | refine RX_exit ?_ | refine RX_ret ?_); try (simp only [go_sem, Nat.max_zero, List.isEmpty_cons, Int.reduceToNat, Nat.reducePow, Int.reduceEq, Int.reduceNe, Int.reduceLT, Int.reduceLE, Nat.reduceAdd, Nat.reduceLeDiff, ↓reduceIte, Nat.reduceLT, Nat.reduceMul, Nat.reduceSub, reduceCtorEq, frzLoc, rowCells, vAppM, beq_iff_eq, bne_iff_ne, bne_self_eq_false, beq_self_eq_true, beq_true, beq_false, I, B, w, vf52_res, vf52_keep, cx_len, cx_app, cx_own0, cx_own, cx_setOwn0, cx_setOwn, cx_take, cx_takeN, Nat.add_right_cancel_iff, Nat.lt_irrefl, cx_nlt, Nat.not_lt_zero, cx_get' h, cx_setId' h, cx_er h, cx_all0 h, cx_all h, CtxOk.lt h, CtxOk.ne0 h, c2, c6, cB, h51a, h51b, hrow, hwn, hps, hps2, hlt, hid, hb2, hb3, hid2, hn1, hx, h2, ibeq, gt_iff_lt, List.length_map]))))
    refine RX_loopN (n := bl.length + 2) (by simp [cx_len]) ?_
    refine fin _ rfl (fun n => rfl) (bxF l gid k).1.swap _ _ _ ⟨rfl, by first | rfl | (simp only [cx_takeN, List.take_succ_cons, List.take_zero]; done) | (simp only [cx_takeN, List.take_succ_cons, List.take_zero]; rfl), rfl, rfl, by simp [cx_len], rfl⟩ ?_
    rintro v live gn st hv hat
    rw [List.nil_append] at hv
    have hm1 : ¬ (0 : Int) ≤ -1 := by decide
    rcases hv with ⟨rfl, rfl, hr0⟩ | ⟨g, rfl, rfl⟩
    · refine RL_at hat (by (simp only [go_sem, Nat.max_zero, List.isEmpty_cons, Int.reduceToNat, Nat.reducePow, Int.reduceEq, Int.reduceNe, Int.reduceLT, Int.reduceLE, Nat.reduceAdd, Nat.reduceLeDiff, ↓reduceIte, Nat.reduceLT, Nat.reduceMul, Nat.reduceSub, reduceCtorEq, frzLoc, rowCells, vAppM, beq_iff_eq, bne_iff_ne, bne_self_eq_false, beq_self_eq_true, beq_true, beq_false, I, B, w, cx_len, cx_app, cx_own0, cx_own, cx_setOwn0, cx_setOwn, cx_take, cx_takeN, Nat.add_right_cancel_iff, Nat.lt_irrefl, cx_nlt, Nat.not_lt_zero, cx_get' h, cx_setId' h, cx_er h, cx_all0 h, cx_all h, CtxOk.lt h, CtxOk.ne0 h, hb2, hb3, hid2])) (by (simp only [go_sem, Nat.max_zero, List.isEmpty_cons, Int.reduceToNat, Nat.reducePow, Int.reduceEq, Int.reduceNe, Int.reduceLT, Int.reduceLE, Nat.reduceAdd, Nat.reduceLeDiff, ↓reduceIte, Nat.reduceLT, Nat.reduceMul, Nat.reduceSub, reduceCtorEq, frzLoc, rowCells, vAppM, beq_iff_eq, bne_iff_ne, bne_self_eq_false, beq_self_eq_true, beq_true, beq_false, I, B, w, cx_len, cx_app, cx_own0, cx_own, cx_setOwn0, cx_setOwn, cx_take, cx_takeN, Nat.add_right_cancel_iff, Nat.lt_irrefl, cx_nlt, Nat.not_lt_zero, cx_get' h, cx_setId' h, cx_er h, cx_all0 h, cx_all h, CtxOk.lt h, CtxOk.ne0 h, hb2, hb3, hid2])) (vf52L0_go ?_)
      (repeat (first
    | refine RX_seq ?_
    | refine RX_block ?_
    | ((first | refine RX_reg ?_ | refine RX_cond' ?_ | refine RX_draw0 ?_ | refine RX_draw rfl ?_ | refine RX_skip ?_ | refine RX_exit ?_ | refine RX_ret ?_); try (simp only [go_sem, Nat.max_zero, List.isEmpty_cons, Int.reduceToNat, Nat.reducePow, Int.reduceEq, Int.reduceNe, Int.reduceLT, Int.reduceLE, Nat.reduceAdd, Nat.reduceLeDiff, ↓reduceIte, Nat.reduceLT, Nat.reduceMul, Nat.reduceSub, reduceCtorEq, frzLoc, rowCells, vAppM, beq_iff_eq, bne_iff_ne, bne_self_eq_false, beq_self_eq_true, beq_true, beq_false, I, B, w, vf52_res, vf52_keep, cx_len, cx_app, cx_own0, cx_own, cx_setOwn0, cx_setOwn, cx_take, cx_takeN, Nat.add_right_cancel_iff, Nat.lt_irrefl, cx_nlt, Nat.not_lt_zero, cx_get' h, cx_setId' h, cx_er h, cx_all0 h, cx_all h, CtxOk.lt h, CtxOk.ne0 h, hid, hb2, hb3, hid2, hm1, ge_iff_le, hr0]))))
    · refine RL_at hat (by (simp only [go_sem, Nat.max_zero, List.isEmpty_cons, Int.reduceToNat, Nat.reducePow, Int.reduceEq, Int.reduceNe, Int.reduceLT, Int.reduceLE, Nat.reduceAdd, Nat.reduceLeDiff, ↓reduceIte, Nat.reduceLT, Nat.reduceMul, Nat.reduceSub, reduceCtorEq, frzLoc, rowCells, vAppM, beq_iff_eq, bne_iff_ne, bne_self_eq_false, beq_self_eq_true, beq_true, beq_false, I, B, w, cx_len, cx_app, cx_own0, cx_own, cx_setOwn0, cx_setOwn, cx_take, cx_takeN, Nat.add_right_cancel_iff, Nat.lt_irrefl, cx_nlt, Nat.not_lt_zero, cx_get' h, cx_setId' h, cx_er h, cx_all0 h, cx_all h, CtxOk.lt h, CtxOk.ne0 h, hb2, hb3, hid2])) (by (simp only [go_sem, Nat.max_zero, List.isEmpty_cons, Int.reduceToNat, Nat.reducePow, Int.reduceEq, Int.reduceNe, Int.reduceLT, Int.reduceLE, Nat.reduceAdd, Nat.reduceLeDiff, ↓reduceIte, Nat.reduceLT, Nat.reduceMul, Nat.reduceSub, reduceCtorEq, frzLoc, rowCells, vAppM, beq_iff_eq, bne_iff_ne, bne_self_eq_false, beq_self_eq_true, beq_true, beq_false, I, B, w, cx_len, cx_app, cx_own0, cx_own, cx_setOwn0, cx_setOwn, cx_take, cx_takeN, Nat.add_right_cancel_iff, Nat.lt_irrefl, cx_nlt, Nat.not_lt_zero, cx_get' h, cx_setId' h, cx_er h, cx_all0 h, cx_all h, CtxOk.lt h, CtxOk.ne0 h, hb2, hb3, hid2])) (vf52L0_go ?_)
      (repeat (first
    | refine RX_seq ?_
    | refine RX_block ?_
    | ((first | refine RX_reg ?_ | refine RX_cond' ?_ | refine RX_draw0 ?_ | refine RX_draw rfl ?_ | refine RX_skip ?_ | refine RX_exit ?_ | refine RX_ret ?_); try (simp only [go_sem, Nat.max_zero, List.isEmpty_cons, Int.reduceToNat, Nat.reducePow, Int.reduceEq, Int.reduceNe, Int.reduceLT, Int.reduceLE, Nat.reduceAdd, Nat.reduceLeDiff, ↓reduceIte, Nat.reduceLT, Nat.reduceMul, Nat.reduceSub, reduceCtorEq, frzLoc, rowCells, vAppM, beq_iff_eq, bne_iff_ne, bne_self_eq_false, beq_self_eq_true, beq_true, beq_false, I, B, w, vf52_res, vf52_keep, cx_len, cx_app, cx_own0, cx_own, cx_setOwn0, cx_setOwn, cx_take, cx_takeN, Nat.add_right_cancel_iff, Nat.lt_irrefl, cx_nlt, Nat.not_lt_zero, cx_get' h, cx_setId' h, cx_er h, cx_all0 h, cx_all h, CtxOk.lt h, CtxOk.ne0 h, hid, hb2, hb3, hid2, hm1, ge_iff_le]))))
end Go.Proofs.Ytjhfakhmflemmaa

namespace Go.Proofs.Ytjhfakhmflemmaa
open Go.VM
def Ik.same (a b : Ik) : Bool := decide (a.kind = b.kind) && (decide (a.spiI = b.spiI) && (decide (a.spiR = b.spiR) && (decide (a.reply = b.reply) && (decide (a.init = b.init) && (decide (a.id = b.id) && Tm.eqbs a.parts b.parts)))))
set_option maxHeartbeats 4000000 in
theorem e62 (a b : Ik) (h1 : a.parts.length < 1099511627776) (h2 : Tm.smalls a.parts) : CV VP 25 [a.ag, b.ag] [] = some ⟨.d (B (a.same b)), [], [], 0⟩ := by
  have h26 := e26 a.parts b.parts h1 h2
  obtain ⟨ak, ai, ar, arp, aini, aid, ap⟩ := a
  obtain ⟨bk, bi, br, brp, bini, bid, bp⟩ := b
  simp only [Ik.ag, Ik.cells, Ik.same, List.map_cons, List.map_nil] at h26 ⊢
  clear h1 h2
  generalize Tm.eqbs ap bp = e at *
  refine CV_run (vf := vf25) rfl rfl ?_
  rw [vf25_start]
  (repeat' (first
    | refine RX_seq ?_
    | refine RX_block ?_
    | ((first | refine RX_reg ?_ | refine RX_cond' ?_ | refine RX_draw0 ?_ | refine RX_draw rfl ?_ | refine RX_skip ?_ | refine RX_exit ?_ | refine RX_ret ?_); try (simp only [go_sem, Nat.max_zero, List.isEmpty_cons, Int.reduceToNat, Nat.reducePow, Int.reduceEq, Int.reduceNe, Int.reduceLT, Int.reduceLE, Nat.reduceAdd, Nat.reduceLeDiff, ↓reduceIte, Nat.reduceLT, Nat.reduceMul, Nat.reduceSub, reduceCtorEq, frzLoc, rowCells, vAppM, bne_self_eq_false, beq_self_eq_true, beq_true, beq_false, I, B, w, ibeq, ibne, bbeq, decide_eq_false_iff_not, decide_not, Bool.not_not, Decidable.not_not, Bool.not_eq_eq_eq_not, gt_iff_lt, ge_iff_le, and_false, false_and, or_self, and_self, vf25_res, vf25_keep, Bool.false_and, Bool.and_false, *]))
    | (refine ite_ngo (fun _ => ?_) (fun _ => ?_) <;> try (simp only [go_sem, Nat.max_zero, List.isEmpty_cons, Int.reduceToNat, Nat.reducePow, Int.reduceEq, Int.reduceNe, Int.reduceLT, Int.reduceLE, Nat.reduceAdd, Nat.reduceLeDiff, ↓reduceIte, Nat.reduceLT, Nat.reduceMul, Nat.reduceSub, reduceCtorEq, frzLoc, rowCells, vAppM, bne_self_eq_false, beq_self_eq_true, beq_true, beq_false, I, B, w, ibeq, ibne, bbeq, decide_eq_false_iff_not, decide_not, Bool.not_not, Decidable.not_not, Bool.not_eq_eq_eq_not, gt_iff_lt, ge_iff_le, and_false, false_and, or_self, and_self, vf25_res, vf25_keep, Bool.false_and, Bool.and_false, *]))
    | (refine ite_go (fun _ => ?_) (fun _ => ?_) <;> try (simp only [go_sem, Nat.max_zero, List.isEmpty_cons, Int.reduceToNat, Nat.reducePow, Int.reduceEq, Int.reduceNe, Int.reduceLT, Int.reduceLE, Nat.reduceAdd, Nat.reduceLeDiff, ↓reduceIte, Nat.reduceLT, Nat.reduceMul, Nat.reduceSub, reduceCtorEq, frzLoc, rowCells, vAppM, bne_self_eq_false, beq_self_eq_true, beq_true, beq_false, I, B, w, ibeq, ibne, bbeq, decide_eq_false_iff_not, decide_not, Bool.not_not, Decidable.not_not, Bool.not_eq_eq_eq_not, gt_iff_lt, ge_iff_le, and_false, false_and, or_self, and_self, vf25_res, vf25_keep, Bool.false_and, Bool.and_false, *]))))
end Go.Proofs.Ytjhfakhmflemmaa

namespace Go.Proofs.Ytjhfakhmflemmaa
open Go.VM
theorem tames_of : ∀ {ts : List Tm}, (∀ t ∈ ts, t.tame) → Tm.tames ts
  | [], _ => trivial
  | t :: _, h => ⟨h t List.mem_cons_self, tames_of fun u hu => h u (List.mem_cons_of_mem _ hu)⟩
theorem tame_nT (n : Int) : (nT n).tame := ⟨by simp, trivial⟩
theorem tame_leaf (o v : Int) : (Tm.mk o v []).tame := ⟨by simp, trivial⟩
theorem tame_pT (n : Int) {ts : List Tm} (hl : ts.length < 100000) (h : ∀ t ∈ ts, t.tame) : (pT n ts).tame := ⟨by simp only [List.length_cons]; omega, tame_nT n, tames_of h⟩
theorem part_pT (n : Int) (ts : List Tm) : (pT n ts).partB = true := by simp [pT, Tm.partB, nT, Tm.op_mk]
theorem drL_tame {f : Nat → Tm × Nat} (hf : ∀ k, (f k).1.tame) : ∀ n k, Tm.tames (drL f n k).1
  | 0, _ => trivial
  | n + 1, k => ⟨hf k, drL_tame hf n _⟩
theorem drT_tame {l : List Int} (hB : Bytes l) : ∀ d k, (drT l d k).1.tame
  | 0, k => ⟨by simp, trivial⟩
  | d + 1, k => by
    have ih := drT_tame hB d
    rw [drT]
    split
    · exact ⟨by simp, trivial⟩
    split
    · refine ⟨?_, drL_tame ih _ _⟩
      rw [drL_len]
      have := nxV_range hB (k := nxA l k) (n := 4) (by decide)
      omega
    split
    · exact ⟨by simp, ⟨by simp, trivial⟩, trivial⟩
    split
    · exact ⟨by simp, ⟨by simp, trivial⟩, ⟨by simp, trivial⟩, trivial⟩
    split
    · exact ⟨by simp, ih _, trivial⟩
    split
    · exact ⟨by simp, ih _, ih _, trivial⟩
    · exact ⟨by simp, ih _, trivial⟩
theorem paNm_len (x : Int) : (paNm x).data.toList.length ≤ 6 := by
  unfold paNm
  split
  · decide
  · split <;> decide
/-- what the parts that are drawn have in common -/
def Good (ts : List Tm) : Prop := ∀ t ∈ ts, t.partB = true ∧ t.tame
theorem paF_good {l : List Int} (hB : Bytes l) (s : Int) (b : Bx) (k : Nat) : Good (paF l s b k).1 ∧ (paF l s b k).1.length ≤ 2 := by
  have one : ∀ n ts, ts.length < 100000 → (∀ t ∈ ts, Tm.tame t) → Good [pT n ts] := fun n ts h1 h2 t ht => by
    simp only [List.mem_cons, List.not_mem_nil, or_false] at ht; subst ht; exact ⟨part_pT n ts, tame_pT n h1 h2⟩
  have two : ∀ n ts m us, ts.length < 100000 → (∀ t ∈ ts, Tm.tame t) → us.length < 100000 → (∀ t ∈ us, Tm.tame t) → Good [pT n ts, pT m us] := fun n ts m us h1 h2 h3 h4 t ht => by
    simp only [List.mem_cons, List.not_mem_nil, or_false] at ht
    rcases ht with rfl | rfl
    · exact ⟨part_pT n ts, tame_pT n h1 h2⟩
    · exact ⟨part_pT m us, tame_pT m h3 h4⟩
  have nums : ∀ ns : List Int, ∀ t ∈ ns.map nT, Tm.tame t := fun ns t ht => by obtain ⟨n, _, rfl⟩ := List.mem_map.1 ht; exact tame_nT n
  have leaf : ∀ o v, ∀ t ∈ [Tm.mk o v []], Tm.tame t := fun o v t ht => by simp only [List.mem_cons, List.not_mem_nil, or_false] at ht; subst ht; exact tame_leaf o v
  unfold paF
  simp only
  split
  · refine ⟨two _ _ _ _ (by simp) (nums [_]) ?_ ?_, by simp⟩
    · have := paNm_len (nxV l (nxA l (nxA l k)) 4)
      simp only [List.length_append, bqN, byT, List.length_map, List.length_cons, List.length_nil]
      omega
    · intro t ht
      rcases List.mem_append.1 ht with ht | ht
      · exact nums [_, _, _, _, _, _, _, _, _, _, _, _, _, _, _, _, _, _] t ht
      · obtain ⟨c, _, rfl⟩ := List.mem_map.1 ht; exact tame_nT _
  split
  · exact ⟨one _ _ (by simp) (leaf _ _), by simp⟩
  split
  · exact ⟨one _ _ (by simp) (nums [_]), by simp⟩
  split
  · refine ⟨two _ _ _ _ (by simp) ?_ (by simp) (nums [_]), by simp⟩
    intro t ht
    simp only [List.mem_cons, List.not_mem_nil, or_false] at ht
    rcases ht with rfl | rfl
    · exact tame_nT _
    · exact ⟨by simp, tame_leaf _ _, trivial⟩
  split
  · exact ⟨one _ _ (by simp) (nums [_, _]), by simp⟩
  split
  · exact ⟨one _ _ (by simp) (by simp), by simp⟩
  split
  · exact ⟨one _ _ (by simp) (leaf _ _), by simp⟩
  split
  · exact ⟨one _ _ (by simp) (nums [_]), by simp⟩
  · refine ⟨one _ _ ?_ ?_, by simp⟩
    · have := nxV_range hB (k := nxA l (nxA l k)) (n := 2 + 1) (by decide)
      rw [drS, drL_len]; omega
    · intro t ht
      exact Tm.tames_mem (drL_tame (drT_tame hB 1) _ _) ht
theorem drC_good {l : List Int} (hB : Bytes l) (s : Int) (b : Bx) : ∀ n k, Good (drC (paF l s b) n k).1 ∧ (drC (paF l s b) n k).1.length ≤ 2 * n
  | 0, k => ⟨fun t ht => (by cases ht), by simp [drC]⟩
  | n + 1, k => by
    have h1 := paF_good hB s b k
    have h2 := drC_good hB s b n (paF l s b k).2
    rw [drC]
    refine ⟨fun t ht => ?_, by rw [List.length_append]; omega⟩
    rcases List.mem_append.1 ht with ht | ht
    · exact h1.1 t ht
    · exact h2.1 t ht
theorem paS_good {l : List Int} (hB : Bytes l) (s : Int) (b : Bx) (k : Nat) : Good (paS l s b k).1 ∧ (paS l s b k).1.length ≤ 12 := by
  have r := nxV_range hB (k := (paB l s b k).2) (n := 6) (by decide)
  have h := drC_good hB s (paB l s b k).1 ((nxV l (paB l s b k).2 6).toNat + 1) (nxA l (paB l s b k).2)
  exact ⟨h.1, by have := h.2; unfold paS; omega⟩
/-- the message that is drawn -/
def msF (l : List Int) (s : Int) (b : Bx) (k : Nat) : Ik × Nat :=
  let k1 := nxA l k
  let k2 := nxA l k1
  let k3 := nxA l k2
  let k4 := nxA l k3
  let k5 := nxA l k4
  let p := paS l s b (nxA l k5)
  (⟨34 + nxV l k 6, nxV l k1 9, nxV l k2 9, decide (nxV l k3 2 = 1), decide (nxV l k4 2 = 1), nxV l k5 5, p.1⟩, p.2)
set_option maxHeartbeats 8000000 in
theorem e54 {l : List Int} (hB : Bytes l) (g : Gw) (hk0 : g.kids = []) (hs : g.id = 0 ∨ g.id = 1) {n : Nat} (hn : n < 1000) (hn1 : g.rules.length = n + 1) {r : Ru} (hr : g.rules[n]? = some r) {b : Bx} {bs : List Bx} (hb : r.bs = b :: bs) (id k : Nat) : ∀ bl, CtxOk bl id →
    CV VP 14 [.ptr id 0, g.ag] (cx bl id l (k : Nat) []) = some ⟨(msF l g.id b k).1.ag, cx bl id l ((msF l g.id b k).2 : Nat) [], [], 0⟩ := by
  intro bl h
  have cN : ∀ (n : Int), 0 < n → n ≤ 256 → ∀ (k : Nat) (own : List (List V)), own.map V.erL = own → own.all (V.ltbL (bl.length + own.length)) = true → CV VP 17 [.ptr id 0, .d (I n)] (cx bl id l (k : Nat) own) = some ⟨.d (I (nxV l k n)), cx bl id l (nxA l k : Nat) own, [], 0⟩ := fun n h1 h2 k own => e29 hB h h1 h2
  have c6 := cN 6 (by decide) (by decide)
  have c9 := cN 9 (by decide) (by decide)
  have c2 := cN 2 (by decide) (by decide)
  have c5 := cN 5 (by decide) (by decide)
  have c37 : ∀ (k : Nat) (own : List (List V)), own.map V.erL = own → own.all (V.ltbL (bl.length + own.length)) = true → CV VP 52 [.ptr id 0, g.ag] (cx bl id l (k : Nat) own) = some ⟨.d (.sl ((paS l g.id b k).1.map Tm.row)), cx bl id l ((paS l g.id b k).2 : Nat) own, [], 0⟩ := fun k own => cx_lift (fun bl h => e37 hB g hk0 hs hn hn1 hr hb id k bl h) h
  have q := nxV_range hB (k := k) (n := 6) (by decide)
  have m6 : IntKind.i64.wrap (34 + nxV l k 6) = 34 + nxV l k 6 := w_in (by omega) (by omega)
  have hid := h.lt
  clear cN hr hb hn hn1 hs hk0 hB
  obtain ⟨gid, gpeer, gloc, grem, grules, ggroups, gnow, gcount, gguard, gvault, gredir, ghalf, gsas, gkids, gtickets⟩ := g
  simp only [msF, Ik.ag, Ik.cells, Gw.ag, Gw.cells, List.map_cons, List.map_nil] at c37 ⊢
  refine CV_run (vf := vf14) rfl rfl ?_
  rw [vf14_start]
  (repeat (first
    | refine RX_seq ?_
    | refine RX_block ?_
    | ((first | refine RX_reg ?_ | refine RX_cond' ?_ | refine RX_draw0 ?_ | refine RX_draw rfl ?_ | refine RX_skip ?_ | refine RX_exit ?_ | refine RX_ret ?_); try (simp only [go_sem, Nat.max_zero, List.isEmpty_cons, Int.reduceToNat, Nat.reducePow, Int.reduceEq, Int.reduceNe, Int.reduceLT, Int.reduceLE, Nat.reduceAdd, Nat.reduceLeDiff, ↓reduceIte, Nat.reduceLT, Nat.reduceMul, Nat.reduceSub, reduceCtorEq, frzLoc, rowCells, vAppM, beq_iff_eq, bne_iff_ne, bne_self_eq_false, beq_self_eq_true, beq_true, beq_false, I, B, w, vf14_res, vf14_keep, cx_len, cx_app, cx_own0, cx_own, cx_setOwn0, cx_setOwn, cx_take, cx_takeN, Nat.add_right_cancel_iff, Nat.lt_irrefl, cx_nlt, Nat.not_lt_zero, cx_get' h, cx_setId' h, cx_er h, cx_all0 h, cx_all h, CtxOk.lt h, CtxOk.ne0 h, c6, c9, c2, c5, c37, m6, hid, ibeq]))))
end Go.Proofs.Ytjhfakhmflemmaa

namespace Go.Proofs.Ytjhfakhmflemmaa
open Go.VM
theorem rowsT (A : List Tm) : ∀ r ∈ A.map Tm.row, r.length = 3 := by
  intro r hr
  obtain ⟨t, _, rfl⟩ := List.mem_map.1 hr
  rw [Tm.row_eq]; rfl
theorem frzTm (A : List Tm) {n : Nat} (hn : A.length = n) : frzLoc (some (rowCells (A.map Tm.row))) 0 n 3 = .d (.sl (A.map Tm.row)) := by
  have hl := rowCells_len (rowsT A)
  rw [List.length_map] at hl
  subst hn
  simp only [frzLoc]
  rw [if_pos (by omega), List.drop_zero, List.take_of_length_le (by omega), rowCells, toDs_map]
  simp only
  have := chunk_flat (rowsT A)
  rw [List.length_map] at this
  rw [this]
theorem rowCells_cons (a : Tm) (A : List Tm) : rowCells ((a :: A).map Tm.row) = .d (I a.op) :: .d (I a.val) :: .d (.sl (a.args.map Tm.row)) :: rowCells (A.map Tm.row) := by
  simp [rowCells, Tm.row_eq]
theorem app_rows {A : List Tm} {n : Nat} (hl : A.length = n + 1) (hn : n < 2000000) (st : St) : vAppM st 3 .nil (A.map Tm.row) = some (.loc st.blocks.length 0 (n + 1) 3, { st with blocks := st.blocks ++ [rowCells (A.map Tm.row)] }) := by
  match A, hl with
  | a :: A', hl =>
    unfold vAppM
    rw [if_pos ⟨by rw [List.length_map, hl]; omega, by rw [List.all_eq_true]; intro r hr; simpa using rowsT _ r hr⟩]
    simp only [List.map_cons, List.length_cons, List.length_map] at hl ⊢
    rw [hl]
end Go.Proofs.Ytjhfakhmflemmaa

namespace Go.Proofs.Ytjhfakhmflemmaa
open Go.VM
-- how many nodes a term has, as the law counts them
mutual
def Tm.sz : Tm → Int
  | .mk _ _ args => Tm.szs args 1
def Tm.szs : List Tm → Int → Int
  | [], n => n
  | t :: ts, n => if n < 300 then Tm.szs ts (w (n + Tm.sz t)) else n
end
set_option maxHeartbeats 4000000 in
theorem eSz : ∀ (n : Nat) (t : Tm), SizeOf.sizeOf t < n → t.tame → CV VP 11 [t.ag] [] = some ⟨.d (I t.sz), [], [], 0⟩
  | 0, t, h, _ => absurd h (Nat.not_lt_zero _)
  | n + 1, .mk a b ts, hn, hs => by
    obtain ⟨hs1, hs2⟩ := hs
    simp only [Tm.ag, Tm.op_mk, Tm.val_mk, Tm.args_mk, Tm.sz]
    refine CV_run (vf := vf11) rfl rfl ?_
    rw [vf11_start]
    (repeat (first
    | refine RX_seq ?_
    | refine RX_block ?_
    | ((first | refine RX_reg ?_ | refine RX_cond' ?_ | refine RX_draw0 ?_ | refine RX_draw rfl ?_ | refine RX_skip ?_ | refine RX_exit ?_ | refine RX_ret ?_); try (simp only [go_sem, Nat.max_zero, List.isEmpty_cons, Int.reduceToNat, Nat.reducePow, Int.reduceEq, Int.reduceNe, Int.reduceLT, Int.reduceLE, Nat.reduceAdd, Nat.reduceLeDiff, ↓reduceIte, Nat.reduceLT, Nat.reduceMul, Nat.reduceSub, reduceCtorEq, frzLoc, rowCells, vAppM, beq_iff_eq, bne_iff_ne, bne_self_eq_false, beq_self_eq_true, beq_true, beq_false, I, B, w, vf11_res, vf11_keep]))))
    refine RX_loopN (n := 1) rfl ?_
    refine RL_ind (fun m st => ∃ (i : Nat) (acc : Int), i + m = ts.length ∧ Tm.szs (ts.drop i) acc = Tm.szs ts 1 ∧ At vf11K0 1 st ((.any :: .ptr 0 0 :: .any :: .d (I acc) :: .d (I (i : Nat)) :: .any :: .any :: .any :: .any :: .any :: .any :: .any :: .any :: .any :: .any :: .any :: .any :: .any :: .any :: .any :: .any :: .any :: .any :: .any :: .any :: [])) [[.d (I a), .d (I b), .d (.sl (ts.map Tm.row))]] [] 0 0) ?_ ts.length _ ⟨0, 1, Nat.zero_add _, rfl, rfl, rfl, rfl, rfl, rfl, rfl⟩
    rintro m st ⟨i, acc, hi, hc, hat⟩ ih
    refine RL_at hat rfl rfl (vf11L0_go ?_)
    clear hat
    cases m with
    | zero =>
      have h1 : ¬ i < ts.length := by omega
      rw [List.drop_eq_nil_of_le (by omega), Tm.szs] at hc
      rw [← hc]
      clear ih hc
      (repeat (first
    | refine RX_seq ?_
    | refine RX_block ?_
    | ((first | refine RX_reg ?_ | refine RX_cond' ?_ | refine RX_draw0 ?_ | refine RX_draw rfl ?_ | refine RX_skip ?_ | refine RX_exit ?_ | refine RX_ret ?_); try (simp only [go_sem, Nat.max_zero, List.isEmpty_cons, Int.reduceToNat, Nat.reducePow, Int.reduceEq, Int.reduceNe, Int.reduceLT, Int.reduceLE, Nat.reduceAdd, Nat.reduceLeDiff, ↓reduceIte, Nat.reduceLT, Nat.reduceMul, Nat.reduceSub, reduceCtorEq, frzLoc, rowCells, vAppM, beq_iff_eq, bne_iff_ne, bne_self_eq_false, beq_self_eq_true, beq_true, beq_false, I, B, w, vf11_res, vf11_keep, List.length_map, h1]))))
    | succ m =>
      have h1 : i < ts.length := by omega
      obtain ⟨t, ht⟩ : ∃ t, ts[i]? = some t := ⟨_, List.getElem?_eq_getElem h1⟩
      have hrt : (ts.map Tm.row)[i]? = some t.row := by rw [List.getElem?_map, ht]; rfl
      have hd : ts.drop i = t :: ts.drop (i + 1) := by
        obtain ⟨h2, h3⟩ := List.getElem?_eq_some_iff.1 ht
        rw [List.drop_eq_getElem_cons h2, h3]
      rw [hd, Tm.szs] at hc
      have h11 := eSz n t (by
        have := List.sizeOf_lt_of_mem (List.mem_of_getElem? ht)
        simp only [Tm.mk.sizeOf_spec] at hn
        omega) (Tm.tames_mem hs2 (List.mem_of_getElem? ht))
      have hwi := w_nat (i := i) (by omega)
      simp only [Tm.row_eq] at hrt
      simp only [Tm.ag] at h11
      by_cases h3 : acc < 300
      · rw [if_pos h3] at hc
        (repeat (first
    | refine RX_seq ?_
    | refine RX_block ?_
    | ((first | refine RX_reg ?_ | refine RX_cond' ?_ | refine RX_draw0 ?_ | refine RX_draw rfl ?_ | refine RX_skip ?_ | refine RX_exit ?_ | refine RX_ret ?_); try (simp only [go_sem, Nat.max_zero, List.isEmpty_cons, Int.reduceToNat, Nat.reducePow, Int.reduceEq, Int.reduceNe, Int.reduceLT, Int.reduceLE, Nat.reduceAdd, Nat.reduceLeDiff, ↓reduceIte, Nat.reduceLT, Nat.reduceMul, Nat.reduceSub, reduceCtorEq, frzLoc, rowCells, vAppM, beq_iff_eq, bne_iff_ne, bne_self_eq_false, beq_self_eq_true, beq_true, beq_false, I, B, w, vf11_res, vf11_keep, List.length_map, h1, h3, hrt, h11, hwi]))))
        exact ih m _ (Nat.lt_succ_self m) ⟨i + 1, _, by omega, hc, rfl, rfl, rfl, rfl, rfl, rfl⟩
      · rw [if_neg h3] at hc
        rw [← hc]
        clear ih hc
        (repeat (first
    | refine RX_seq ?_
    | refine RX_block ?_
    | ((first | refine RX_reg ?_ | refine RX_cond' ?_ | refine RX_draw0 ?_ | refine RX_draw rfl ?_ | refine RX_skip ?_ | refine RX_exit ?_ | refine RX_ret ?_); try (simp only [go_sem, Nat.max_zero, List.isEmpty_cons, Int.reduceToNat, Nat.reducePow, Int.reduceEq, Int.reduceNe, Int.reduceLT, Int.reduceLE, Nat.reduceAdd, Nat.reduceLeDiff, ↓reduceIte, Nat.reduceLT, Nat.reduceMul, Nat.reduceSub, reduceCtorEq, frzLoc, rowCells, vAppM, beq_iff_eq, bne_iff_ne, bne_self_eq_false, beq_self_eq_true, beq_true, beq_false, I, B, w, vf11_res, vf11_keep, List.length_map, h1, h3]))))
theorem shape_parts {y : Tm} {m : Ik} {s : Bool} (h : y.shape = some (m, s)) (hy : y.tame) : m.parts.length < 1099511627776 ∧ Tm.smalls m.parts := by
  unfold Tm.shape at h
  split at h
  · cases hr : rdHead y.args with
    | none => rw [hr] at h; simp only [shapeR, reduceCtorEq] at h
    | some p =>
      obtain ⟨m', r⟩ := p
      rw [hr] at h
      obtain ⟨x0, x1, x2, x3, x4, hl, hm⟩ := rdHead_some hr
      have hrm : r ∈ y.args := by rw [hl]; simp
      simp only [shapeR] at h
      split at h
      · rename_i ps hps
        simp only [Option.some.injEq, Prod.mk.injEq] at h
        obtain ⟨rfl, rfl⟩ := h
        have : ps = r.args := by
          unfold Tm.parts at hps
          split at hps
          · simp only [Option.some.injEq] at hps; exact hps.symm
          · cases hps
        subst this
        have ht := hy.mem hrm
        obtain ⟨o, v, l⟩ := r
        exact ⟨by show l.length < _; have := ht.1; omega, Tm.tames.smalls ht.2⟩
      · split at h
        · simp only [Option.some.injEq, Prod.mk.injEq] at h
          obtain ⟨rfl, rfl⟩ := h
          rw [hm]
          exact ⟨by simp, trivial⟩
        · cases h
  · simp only [shapeR, reduceCtorEq] at h
theorem unseal_tame {key r b : Tm} (h : Tm.unseal key r = some b) (hr : r.tame) : b.tame := by
  unfold Tm.unseal at h
  split at h
  · split at h
    · simp only [Option.some.injEq] at h
      subst h
      exact hr.2.2.1
    · cases h
  · cases h
theorem zero_tame : Tm.zero.tame := ⟨by simp, trivial⟩
theorem open_parts {key y : Tm} {m : Ik} (h : Tm.openK key y = some m) (hy : y.tame) : m.parts.length < 1099511627776 ∧ Tm.smalls m.parts := by
  unfold Tm.openK at h
  split at h
  · rename_i m' hs
    have hz : (y.args.getD 5 Tm.zero).tame := by
      rw [List.getD_eq_getElem?_getD]
      cases hg : y.args[5]? with
      | none => exact zero_tame
      | some r => exact hy.mem (List.mem_of_getElem? hg)
    cases hu : Tm.unseal key (y.args.getD 5 Tm.zero) with
    | none => rw [hu] at h; simp only [openB, reduceCtorEq] at h
    | some b =>
      rw [hu] at h
      have hb := unseal_tame hu hz
      simp only [openB] at h
      split at h
      · split at h
        · rename_i ps hps
          simp only [Option.some.injEq] at h
          subst h
          have : ps = (b.args.getD 5 Tm.zero).args := by
            unfold Tm.parts at hps
            split at hps
            · simp only [Option.some.injEq] at hps; exact hps.symm
            · cases hps
          subst this
          have ht : (b.args.getD 5 Tm.zero).tame := by
            rw [List.getD_eq_getElem?_getD]
            cases hg : b.args[5]? with
            | none => exact zero_tame
            | some r => exact hb.mem (List.mem_of_getElem? hg)
          generalize b.args.getD 5 Tm.zero = r at ht
          obtain ⟨o, v, l⟩ := r
          exact ⟨by show l.length < _; have := ht.1; omega, Tm.tames.smalls ht.2⟩
        · cases h
      · cases h
  · cases h
theorem same_refl (m : Ik) : m.same m = true := by
  unfold Ik.same; rw [Tm.eqbs_refl]; simp
structure Rd (key y : Tm) (a u : Ik) (s ok op : Bool) : Prop where
  p : CV VP 21 [y.ag] [] = some ⟨.tup [a.ag, .d (B s), .d (B ok)], [], [], 0⟩
  q : CV VP 22 [y.ag] [] = some ⟨.tup [a.ag, .d (B s), .d (B ok)], [], [], 0⟩
  r : CV VP 23 [key.ag, y.ag] [] = some ⟨.tup [u.ag, .d (B op)], [], [], 0⟩
  s : CV VP 24 [key.ag, y.ag] [] = some ⟨.tup [u.ag, .d (B op)], [], [], 0⟩
  t : CV VP 25 [a.ag, a.ag] [] = some ⟨.d (B true), [], [], 0⟩
  v : CV VP 25 [u.ag, u.ag] [] = some ⟨.d (B true), [], [], 0⟩
theorem rd_all (key y : Tm) (hy : y.tame) : ∃ (a u : Ik) (s ok op : Bool), Rd key y a u s ok op := by
  have h1 := e58 y (fun u hu => (hy.mem hu).len)
  have h2 := e59 y (fun u hu => (hy.mem hu).len)
  have h3 := e60 key y hy
  have h4 := e61 key y hy
  have h5 : ∃ (a : Ik) (s ok : Bool), shapeV y.shape = .tup [a.ag, .d (B s), .d (B ok)] ∧ a.parts.length < 1099511627776 ∧ Tm.smalls a.parts := by
    cases hs : y.shape with
    | none => exact ⟨Ik.zero, false, false, rfl, by simp [Ik.zero], trivial⟩
    | some p => obtain ⟨m, s⟩ := p; exact ⟨m, s, true, rfl, shape_parts hs hy⟩
  have h6 : ∃ (u : Ik) (op : Bool), openV (Tm.openK key y) = .tup [u.ag, .d (B op)] ∧ u.parts.length < 1099511627776 ∧ Tm.smalls u.parts := by
    cases hs : Tm.openK key y with
    | none => exact ⟨Ik.zero, false, rfl, by simp [Ik.zero], trivial⟩
    | some m => exact ⟨m, true, rfl, open_parts hs hy⟩
  obtain ⟨a, s, ok, ha, ha1, ha2⟩ := h5
  obtain ⟨u, op, hu, hu1, hu2⟩ := h6
  rw [ha] at h1 h2
  rw [hu] at h3 h4
  have h7 := e62 a a ha1 ha2
  have h8 := e62 u u hu1 hu2
  rw [same_refl] at h7 h8
  exact ⟨a, u, s, ok, op, h1, h2, h3, h4, h7, h8⟩
end Go.Proofs.Ytjhfakhmflemmaa

namespace Go.Proofs.Ytjhfakhmflemmaa
open Go.VM
abbrev cdB (q : List Int) (k : Nat) : List V := [.d (.sl (q.map byteRow)), .d (I (k : Nat))]
/-- the gateway of the scenes, and the box of its last rule -/
theorem gaF_a {q : List Int} (hB : Bytes q) (k : Nat) : ∃ n r b bs, n < 1000 ∧ (gaF q k).1.1.kids = [] ∧ (gaF q k).1.1.id = 0 ∧ (gaF q k).1.1.rules.length = n + 1 ∧ (gaF q k).1.1.rules[n]? = some r ∧ r.bs = b :: bs := by
  have h1 := ruS_len hB 0 (nxA q k)
  have h2 := ruS_fine hB (s := 0) (by decide) (by decide) (nxA q k)
  obtain ⟨n, hn⟩ : ∃ n, (ruS q 0 (nxA q k)).1.length = n + 1 := ⟨(ruS q 0 (nxA q k)).1.length - 1, by omega⟩
  obtain ⟨r, hr⟩ : ∃ r, (ruS q 0 (nxA q k)).1[n]? = some r := ⟨_, List.getElem?_eq_getElem (by omega)⟩
  have hp := (h2 r (List.mem_of_getElem? hr)).pos
  obtain ⟨b, bs, hb⟩ : ∃ b bs, r.bs = b :: bs := by
    cases h : r.bs with
    | nil => rw [h] at hp; simp at hp
    | cons b bs => exact ⟨b, bs, rfl⟩
  exact ⟨n, r, b, bs, by omega, rfl, rfl, hn, hr, hb⟩
theorem head_tame (m : Ik) : ∀ t ∈ m.head, t.tame := fun t ht => by
  simp only [Ik.head, List.mem_cons, List.not_mem_nil, or_false] at ht
  rcases ht with rfl | rfl | rfl | rfl | rfl <;> exact tame_nT _
theorem plain_tame {m : Ik} (h : Good m.parts) (hl : m.parts.length ≤ 12) : m.plain.tame := by
  refine ⟨by simp [Ik.head], tames_of fun t ht => ?_⟩
  rcases List.mem_append.1 ht with ht | ht
  · exact head_tame m t ht
  · simp only [List.mem_cons, List.not_mem_nil, or_false] at ht
    subst ht
    exact ⟨by omega, tames_of fun t ht => (h t ht).2⟩
theorem seal_tame {m : Ik} {key : Tm} (h : Good m.parts) (hl : m.parts.length ≤ 12) (hk : key.tame) : (Tm.mk 7 0 [key, m.plain]).tame := ⟨by simp, hk, plain_tame h hl, trivial⟩
theorem list_tame {o v : Int} {ts : List Tm} (hl : ts.length < 2000000) (h : ∀ t ∈ ts, t.tame) : (Tm.mk o v ts).tame := ⟨hl, tames_of h⟩
theorem rowCells_add (t : Tm) : ∀ {A : List Tm} {j : Nat}, j < A.length → List.take (j * 3) (rowCells (A.map Tm.row)) ++ [.d (I t.op), .d (I t.val), .d (.sl (t.args.map Tm.row))] ++ List.drop (j * 3 + 3) (rowCells (A.map Tm.row)) = rowCells ((A.set j t).map Tm.row)
  | [], j, h => by simp at h
  | a :: A, 0, h => by
    rw [rowCells_cons, List.set_cons_zero, rowCells_cons]
    simp
  | a :: A, j + 1, h => by
    have ih := rowCells_add t (A := A) (j := j) (by simpa using h)
    have e1 : (j + 1) * 3 = j * 3 + 1 + 1 + 1 := by omega
    have e2 : (j + 1) * 3 + 3 = j * 3 + 3 + 1 + 1 + 1 := by omega
    rw [e2, e1, rowCells_cons, List.set_cons_succ, rowCells_cons]
    simp only [List.take_succ_cons, List.drop_succ_cons, List.cons_append]
    rw [ih]
end Go.Proofs.Ytjhfakhmflemmaa

set_option maxRecDepth 100000
namespace Go.Proofs.Ytjhfakhmflemmaa
open Go.VM
theorem e3a (t : Tm) (hsz : CV VP 11 [t.ag] [] = some ⟨.d (I t.sz), [], [], 0⟩) (h300 : 300 ≤ t.sz) (x : V) : CV VP 3 [t.ag, x] [] = some ⟨.d (B true), [], [], 0⟩ := by
  simp only [Tm.ag] at hsz ⊢
  refine CV_run (vf := vf3) rfl rfl ?_
  rw [vf3_start]
  (repeat (first
    | refine RX_seq ?_
    | refine RX_block ?_
    | ((first | refine RX_reg ?_ | refine RX_cond' ?_ | refine RX_draw0 ?_ | refine RX_draw rfl ?_ | refine RX_skip ?_ | refine RX_exit ?_ | refine RX_ret ?_); try (simp only [go_sem, Nat.max_zero, List.isEmpty_cons, Int.reduceToNat, Nat.reducePow, Int.reduceEq, Int.reduceNe, Int.reduceLT, Int.reduceLE, Nat.reduceAdd, Nat.reduceLeDiff, ↓reduceIte, Nat.reduceLT, Nat.reduceMul, Nat.reduceSub, reduceCtorEq, frzLoc, rowCells, vAppM, beq_iff_eq, bne_iff_ne, bne_self_eq_false, beq_self_eq_true, beq_true, beq_false, I, B, w, vf3_res, vf3_keep, e13, hsz, h300, ge_iff_le, decide_true]))))
theorem nx2 {q : List Int} (hB : Bytes q) (k : Nat) : nxV q k 2 = 0 ∨ nxV q k 2 = 1 := by
  have := nxV_range hB (k := k) (n := 2) (by decide); omega
set_option maxHeartbeats 16000000 in
theorem e3 {l : List Int} (t : Tm) (ht : t.tame) (hB : ByteL l) : CV VP 3 [t.ag, .d (byteD l)] [] = some ⟨.d (B true), [], [], 0⟩ := by
  have hsz := eSz _ t (Nat.lt_succ_self _) ht
  by_cases h300 : 300 ≤ t.sz
  · exact e3a t hsz h300 _
  have h21 : CV VP 12 [.d (byteD l), .d (I 200)] [] = some ⟨.ptr 0 0, [[.sl 1 ((l.take 200).map byteRow) (.own 0 0), .d (I 0)]], [0], 1⟩ := e21 200 (by decide)
  have hB2 := bytes_take hB 200 (by decide)
  generalize l.take 200 = q at *
  have hctx : CtxOk [[.d (I t.op), .d (I t.val), .d (.sl (t.args.map Tm.row))], []] 1 := .of (by simp) rfl (by simp [V.ltbL, V.ltb])
  have c13 : CV VP 13 [.ptr 1 0] [[.d (I t.op), .d (I t.val), .d (.sl (t.args.map Tm.row))], [.d (.sl (q.map byteRow)), .d (I 0)]] = some ⟨.tup [(gaF q 0).1.1.ag, (gaF q 0).1.2.ag], [[.d (I t.op), .d (I t.val), .d (.sl (t.args.map Tm.row))], cdB q (gaF q 0).2], [], 0⟩ := e36b hB2 1 0 _ hctx
  obtain ⟨n, r, b, bs, hn, hk0, hid0, hn1, hr, hb⟩ := gaF_a hB2 0
  generalize (gaF q 0).2 = k1 at *
  generalize (gaF q 0).1.2 = gb at *
  generalize (gaF q 0).1.1 = ga at *
  have c14 : CV VP 14 [.ptr 1 0, ga.ag] [[.d (I t.op), .d (I t.val), .d (.sl (t.args.map Tm.row))], cdB q k1] = some ⟨(msF q ga.id b k1).1.ag, [[.d (I t.op), .d (I t.val), .d (.sl (t.args.map Tm.row))], cdB q (msF q ga.id b k1).2], [], 0⟩ := e54 hB2 ga hk0 (.inl hid0) hn hn1 hr hb 1 k1 _ hctx
  have hgood : Good (msF q ga.id b k1).1.parts ∧ (msF q ga.id b k1).1.parts.length ≤ 12 := paS_good hB2 ga.id b _
  generalize msF q ga.id b k1 = M at *
  obtain ⟨m, k2⟩ := M
  simp only at c14 hgood
  have c15a : CV VP 15 [.ptr 1 0, .d (I 2)] [[.d (I t.op), .d (I t.val), .d (.sl (t.args.map Tm.row))], cdB q k2] = some ⟨(drT q 1 k2).1.ag, [[.d (I t.op), .d (I t.val), .d (.sl (t.args.map Tm.row))], cdB q (drT q 1 k2).2], [], 0⟩ := e32b hB2 1 (by decide) 1 k2 _ hctx
  have hkt := drT_tame hB2 1 k2
  generalize drT q 1 k2 = K at *
  obtain ⟨key, k3⟩ := K
  simp only at c15a hkt
  have c17a : CV VP 17 [.ptr 1 0, .d (I 2)] [[.d (I t.op), .d (I t.val), .d (.sl (t.args.map Tm.row))], cdB q k3] = some ⟨.d (I (nxV q k3 2)), [[.d (I t.op), .d (I t.val), .d (.sl (t.args.map Tm.row))], cdB q (nxA q k3)], [], 0⟩ := e29b hB2 1 k3 (by decide) (by decide) _ hctx
  have hx2 := nx2 hB2 k3
  generalize nxV q k3 2 = x2 at *
  generalize nxA q k3 = k4 at *
  have c17b : CV VP 17 [.ptr 1 0, .d (I 6)] [[.d (I t.op), .d (I t.val), .d (.sl (t.args.map Tm.row))], cdB q k4] = some ⟨.d (I (nxV q k4 6)), [[.d (I t.op), .d (I t.val), .d (.sl (t.args.map Tm.row))], cdB q (nxA q k4)], [], 0⟩ := e29b hB2 1 k4 (by decide) (by decide) _ hctx
  have hj := nxV_range hB2 (k := k4) (n := 6) (by decide)
  obtain ⟨j, hje⟩ : ∃ j : Nat, nxV q k4 6 = (j : Int) := ⟨_, (Int.toNat_of_nonneg hj.1).symm⟩
  rw [hje] at c17b hj
  generalize nxA q k4 = k5 at *
  have c15b : CV VP 15 [.ptr 1 0, .d (I 2)] [[.d (I t.op), .d (I t.val), .d (.sl (t.args.map Tm.row))], cdB q k5] = some ⟨(drT q 1 k5).1.ag, [[.d (I t.op), .d (I t.val), .d (.sl (t.args.map Tm.row))], cdB q (drT q 1 k5).2], [], 0⟩ := e32b hB2 1 (by decide) 1 k5 _ hctx
  have hTt := drT_tame hB2 1 k5
  generalize drT q 1 k5 = K at *
  obtain ⟨T, k6⟩ := K
  simp only at c15b hTt
  have c17c : CV VP 17 [.ptr 1 0, .d (I 7)] [[.d (I t.op), .d (I t.val), .d (.sl (t.args.map Tm.row))], cdB q k6] = some ⟨.d (I (nxV q k6 7)), [[.d (I t.op), .d (I t.val), .d (.sl (t.args.map Tm.row))], cdB q (nxA q k6)], [], 0⟩ := e29b hB2 1 k6 (by decide) (by decide) _ hctx
  have hy := nxV_range hB2 (k := k6) (n := 7) (by decide)
  obtain ⟨y, hye⟩ : ∃ y : Nat, nxV q k6 7 = (y : Int) := ⟨_, (Int.toNat_of_nonneg hy.1).symm⟩
  rw [hye] at c17c hy
  generalize nxA q k6 = k7 at *
  have hj6 : j < 6 := by omega
  have hy6 : y ≤ 6 := by omega
  have hj6i : (j : Int) < 6 := by omega
  have hy6i : (y : Int) ≤ 6 := by omega
  -- the message that is looked at
  obtain ⟨m2, hm2⟩ : ∃ m2 : Ik, m2 = { m with id := w (m.id + 1) } := ⟨_, rfl⟩
  have hgood2 : Good m2.parts ∧ m2.parts.length ≤ 12 := by rw [hm2]; exact hgood
  have h16 := e55 m key (by omega)
  have h18 := e56 m (by omega)
  have h18b := e56 m2 (by omega)
  have fin : ∀ (A : List Tm), A.length = 6 → (∀ u ∈ A, u.tame) → True := fun _ _ _ => trivial
  obtain ⟨A, hAx, hAl, hAt⟩ : ∃ A : List Tm, (x2 = 0 ∧ m.sealed key = .mk 3 0 A ∨ x2 = 1 ∧ m.plain = .mk 3 0 A) ∧ A.length = 6 ∧ ∀ u ∈ A, u.tame := by
    rcases hx2 with h | h
    · refine ⟨m.head ++ [.mk 7 0 [key, m.plain]], .inl ⟨h, rfl⟩, rfl, fun u hu => ?_⟩
      rcases List.mem_append.1 hu with hu | hu
      · exact head_tame m u hu
      · simp only [List.mem_cons, List.not_mem_nil, or_false] at hu
        subst hu
        exact seal_tame hgood.1 hgood.2 hkt
    · exact ⟨m.head ++ [.mk 3 0 m.parts], .inr ⟨h, rfl⟩, rfl, fun u hu => (plain_tame hgood.1 hgood.2).mem hu⟩
  have hxt : (Tm.mk 3 0 A).tame := list_tame (by omega) hAt
  obtain ⟨A2, hA2⟩ : ∃ A2, A2 = A.set j T := ⟨_, rfl⟩
  have hA2l : A2.length = 6 := by rw [hA2]; simpa using hAl
  have hA2t : (Tm.mk 3 0 A2).tame := list_tame (by omega) fun u hu => by
    rw [hA2] at hu
    rcases List.mem_or_eq_of_mem_set hu with hu | rfl
    · exact hAt u hu
    · exact hTt
  have h19 := e57 (I key.op) (I key.val) (.sl (key.args.map Tm.row)) (I m2.plain.op) (I m2.plain.val) (.sl (m2.plain.args.map Tm.row))
  obtain ⟨Sx, hSx⟩ : ∃ Sx : Tm, Sx = .mk 7 0 [key, m2.plain] := ⟨_, rfl⟩
  have hSt : Sx.tame := by rw [hSx]; exact seal_tame hgood2.1 hgood2.2 hkt
  have hmt : (Tm.mk 3 0 (A.take 5 ++ [Sx])).tame := list_tame (by simp; omega) fun u hu => by
    rcases List.mem_append.1 hu with hu | hu
    · exact hAt u (List.mem_of_mem_take hu)
    · simp only [List.mem_cons, List.not_mem_nil, or_false] at hu
      subst hu; exact hSt
  have h20 := e33 (Tm.rows3 (A.take y) (by rw [List.length_take]; omega))
  have hyt : (Tm.mk 3 0 (A.take y)).tame := list_tame (by rw [List.length_take]; omega) fun u hu => hAt u (List.mem_of_mem_take hu)
  obtain ⟨a1, u1, s1, o1, p1, F1⟩ := rd_all key t ht
  obtain ⟨a2, u2, s2, o2, p2, F2⟩ := rd_all key _ hxt
  obtain ⟨a3, u3, s3, o3, p3, F3⟩ := rd_all key _ hA2t
  obtain ⟨a4, u4, s4, o4, p4, F4⟩ := rd_all key _ hmt
  obtain ⟨a5, u5, s5, o5, p5, F5⟩ := rd_all key _ hyt
  clear fin
  have happ := fun st => app_rows (A := A) hAl (by decide) st
  have hst := rowCells_add T (A := A) (j := j) (by omega)
  rw [← hA2] at hst
  have hfr := frzTm A2 hA2l
  have hRC : (rowCells (A.map Tm.row)).length = 18 := by rw [rowCells_len (rowsT A)]; simp [hAl]
  have hRC2 : (rowCells (A2.map Tm.row)).length = 18 := by rw [rowCells_len (rowsT A2)]; simp [hA2l]
  have hRe : ∀ A : List Tm, V.erL (rowCells (A.map Tm.row)) = rowCells (A.map Tm.row) := fun A => erL_d _
  have hRt : ∀ n (A : List Tm), V.ltbL n (rowCells (A.map Tm.row)) = true := fun n A => ltbL_d n _
  have hj18 : j * 3 + 3 ≤ 18 := by omega
  have hall : ∀ A : List Tm, (A.map Tm.row).all (fun r => r.length == 3) = true := fun A => by rw [List.all_eq_true]; intro r hr; simpa using rowsT A r hr
  have hm5 : List.take 5 (A.map Tm.row) = (A.take 5).map Tm.row := List.map_take.symm
  have hmy : List.take y (A.map Tm.row) = (A.take y).map Tm.row := List.map_take.symm
  have hl5 : (A.take 5).length = 5 := by rw [List.length_take]; omega
  obtain ⟨p1', q1', r1', z1', t1', v1'⟩ := F1
  obtain ⟨p2', q2', r2', z2', t2', v2'⟩ := F2
  obtain ⟨p3', q3', r3', z3', t3', v3'⟩ := F3
  obtain ⟨p4', q4', r4', z4', t4', v4'⟩ := F4
  obtain ⟨p5', q5', r5', z5', t5', v5'⟩ := F5
  clear hB2 hr hb hn hn1 hk0 hid0 hgood hgood2 hkt hTt hSt hmt hyt hxt hA2t hAt hA2 ht hx2 hctx
  obtain ⟨gid, gpeer, gloc, grem, grules, ggroups, gnow, gcount, gguard, gvault, gredir, ghalf, gsas, gkids, gtickets⟩ := ga
  obtain ⟨hid', hpeer, hloc, hrem, hrules, hgroups, hnow, hcount, hguard, hvault, hredir, hhalf, hsas, hkids, htickets⟩ := gb
  rw [hSx] at p4' q4' r4' z4'
  rcases hAx with ⟨h0, hx⟩ | ⟨h0, hx⟩
  all_goals
    subst h0
    first | rw [hx] at h16 | rw [hx] at h18
    obtain ⟨mk, ms, mr, mrep, mini, mid, mps⟩ := m
    subst hm2
    obtain ⟨ak1, as1, ar1, arep1, aini1, aid1, aps1⟩ := a1
    obtain ⟨ak2, as2, ar2, arep2, aini2, aid2, aps2⟩ := a2
    obtain ⟨ak3, as3, ar3, arep3, aini3, aid3, aps3⟩ := a3
    obtain ⟨ak4, as4, ar4, arep4, aini4, aid4, aps4⟩ := a4
    obtain ⟨ak5, as5, ar5, arep5, aini5, aid5, aps5⟩ := a5
    obtain ⟨uk1, us1, ur1, urep1, uini1, uid1, ups1⟩ := u1
    obtain ⟨uk2, us2, ur2, urep2, uini2, uid2, ups2⟩ := u2
    obtain ⟨uk3, us3, ur3, urep3, uini3, uid3, ups3⟩ := u3
    obtain ⟨uk4, us4, ur4, urep4, uini4, uid4, ups4⟩ := u4
    obtain ⟨uk5, us5, ur5, urep5, uini5, uid5, ups5⟩ := u5
    simp only [Gw.ag, Gw.cells, Ik.ag, Ik.cells, List.map_cons, List.map_nil, List.map_append, Tm.ag, Tm.row_mk, Tm.row_eq, Tm.op_mk, Tm.val_mk, Tm.args_mk] at *
    have w0 : IntKind.i64.wrap (0 + 1) = 1 := rfl
    have w1 : IntKind.i64.wrap (1 + 1) = 2 := rfl
    have w2 : IntKind.i64.wrap (2 + 1) = 3 := rfl
    have w3 : IntKind.i64.wrap (3 + 1) = 4 := rfl
    have w4 : IntKind.i64.wrap (4 + 1) = 5 := rfl
    refine CV_run (vf := vf3) rfl rfl ?_
    rw [vf3_start]
    (repeat (first
    | refine RX_seq ?_
    | refine RX_block ?_
    | ((first | refine RX_reg ?_ | refine RX_cond' ?_ | refine RX_draw0 ?_ | refine RX_draw rfl ?_ | refine RX_skip ?_ | refine RX_exit ?_ | refine RX_ret ?_); try (simp only [go_sem, Nat.max_zero, List.isEmpty_cons, Int.reduceToNat, Nat.reducePow, Int.reduceEq, Int.reduceNe, Int.reduceLT, Int.reduceLE, Nat.reduceAdd, Nat.reduceLeDiff, ↓reduceIte, Nat.reduceLT, Nat.reduceMul, Nat.reduceSub, reduceCtorEq, beq_iff_eq, bne_iff_ne, bne_self_eq_false, beq_self_eq_true, beq_true, beq_false, I, B, w, vf3_res, vf3_keep, e13, hsz, h300, h21, c13, c14, c15a, c17a, c17b, c15b, c17c, h16, h18, h18b, h19, h20, hAl, hA2l, List.length_map, happ, hj6, hj6i, hy6, hy6i, hRC, hRC2, hRe, hRt, hj18, hst, hfr, hall, hm5, hmy, hl5, ge_iff_le, Int.toNat_natCast, ibeq]))))
    refine RX_loop ?_
    (refine RL_head ?_; (simp only [go_sem, Nat.max_zero, List.isEmpty_cons, Int.reduceToNat, Nat.reducePow, Int.reduceEq, Int.reduceNe, Int.reduceLT, Int.reduceLE, Nat.reduceAdd, Nat.reduceLeDiff, ↓reduceIte, Nat.reduceLT, Nat.reduceMul, Nat.reduceSub, reduceCtorEq, beq_iff_eq, bne_iff_ne, bne_self_eq_false, beq_self_eq_true, beq_true, beq_false, I, B, w, St.head, forget, vf3K0, RLK_some, List.length_map, hRe, hRt, hRC, hRC2, hfr, hA2l, p1', q1', r1', z1', t1', v1', p2', q2', r2', z2', t2', v2', p3', q3', r3', z3', t3', v3', p4', q4', r4', z4', t4', v4', p5', q5', r5', z5', t5', v5', Nat.reduceMul, w0, w1, w2, w3, w4]); refine vf3L0_go ?_; ((repeat (first
    | refine RX_seq ?_
    | refine RX_block ?_
    | ((first | refine RX_reg ?_ | refine RX_cond' ?_ | refine RX_draw0 ?_ | refine RX_draw rfl ?_ | refine RX_skip ?_ | refine RX_exit ?_ | refine RX_ret ?_); try (simp only [go_sem, Nat.max_zero, List.isEmpty_cons, Int.reduceToNat, Nat.reducePow, Int.reduceEq, Int.reduceNe, Int.reduceLT, Int.reduceLE, Nat.reduceAdd, Nat.reduceLeDiff, ↓reduceIte, Nat.reduceLT, Nat.reduceMul, Nat.reduceSub, reduceCtorEq, beq_iff_eq, bne_iff_ne, bne_self_eq_false, beq_self_eq_true, beq_true, beq_false, I, B, w, vf3_res, vf3_keep, List.length_map, hRe, hRt, hRC, hRC2, hfr, hA2l, p1', q1', r1', z1', t1', v1', p2', q2', r2', z2', t2', v2', p3', q3', r3', z3', t3', v3', p4', q4', r4', z4', t4', v4', p5', q5', r5', z5', t5', v5', Nat.reduceMul, w0, w1, w2, w3, w4]))))))
    (refine RL_head ?_; (simp only [go_sem, Nat.max_zero, List.isEmpty_cons, Int.reduceToNat, Nat.reducePow, Int.reduceEq, Int.reduceNe, Int.reduceLT, Int.reduceLE, Nat.reduceAdd, Nat.reduceLeDiff, ↓reduceIte, Nat.reduceLT, Nat.reduceMul, Nat.reduceSub, reduceCtorEq, beq_iff_eq, bne_iff_ne, bne_self_eq_false, beq_self_eq_true, beq_true, beq_false, I, B, w, St.head, forget, vf3K0, RLK_some, List.length_map, hRe, hRt, hRC, hRC2, hfr, hA2l, p1', q1', r1', z1', t1', v1', p2', q2', r2', z2', t2', v2', p3', q3', r3', z3', t3', v3', p4', q4', r4', z4', t4', v4', p5', q5', r5', z5', t5', v5', Nat.reduceMul, w0, w1, w2, w3, w4]); refine vf3L0_go ?_; ((repeat (first
    | refine RX_seq ?_
    | refine RX_block ?_
    | ((first | refine RX_reg ?_ | refine RX_cond' ?_ | refine RX_draw0 ?_ | refine RX_draw rfl ?_ | refine RX_skip ?_ | refine RX_exit ?_ | refine RX_ret ?_); try (simp only [go_sem, Nat.max_zero, List.isEmpty_cons, Int.reduceToNat, Nat.reducePow, Int.reduceEq, Int.reduceNe, Int.reduceLT, Int.reduceLE, Nat.reduceAdd, Nat.reduceLeDiff, ↓reduceIte, Nat.reduceLT, Nat.reduceMul, Nat.reduceSub, reduceCtorEq, beq_iff_eq, bne_iff_ne, bne_self_eq_false, beq_self_eq_true, beq_true, beq_false, I, B, w, vf3_res, vf3_keep, List.length_map, hRe, hRt, hRC, hRC2, hfr, hA2l, p1', q1', r1', z1', t1', v1', p2', q2', r2', z2', t2', v2', p3', q3', r3', z3', t3', v3', p4', q4', r4', z4', t4', v4', p5', q5', r5', z5', t5', v5', Nat.reduceMul, w0, w1, w2, w3, w4]))))))
    (refine RL_head ?_; (simp only [go_sem, Nat.max_zero, List.isEmpty_cons, Int.reduceToNat, Nat.reducePow, Int.reduceEq, Int.reduceNe, Int.reduceLT, Int.reduceLE, Nat.reduceAdd, Nat.reduceLeDiff, ↓reduceIte, Nat.reduceLT, Nat.reduceMul, Nat.reduceSub, reduceCtorEq, beq_iff_eq, bne_iff_ne, bne_self_eq_false, beq_self_eq_true, beq_true, beq_false, I, B, w, St.head, forget, vf3K0, RLK_some, List.length_map, hRe, hRt, hRC, hRC2, hfr, hA2l, p1', q1', r1', z1', t1', v1', p2', q2', r2', z2', t2', v2', p3', q3', r3', z3', t3', v3', p4', q4', r4', z4', t4', v4', p5', q5', r5', z5', t5', v5', Nat.reduceMul, w0, w1, w2, w3, w4]); refine vf3L0_go ?_; ((repeat (first
    | refine RX_seq ?_
    | refine RX_block ?_
    | ((first | refine RX_reg ?_ | refine RX_cond' ?_ | refine RX_draw0 ?_ | refine RX_draw rfl ?_ | refine RX_skip ?_ | refine RX_exit ?_ | refine RX_ret ?_); try (simp only [go_sem, Nat.max_zero, List.isEmpty_cons, Int.reduceToNat, Nat.reducePow, Int.reduceEq, Int.reduceNe, Int.reduceLT, Int.reduceLE, Nat.reduceAdd, Nat.reduceLeDiff, ↓reduceIte, Nat.reduceLT, Nat.reduceMul, Nat.reduceSub, reduceCtorEq, beq_iff_eq, bne_iff_ne, bne_self_eq_false, beq_self_eq_true, beq_true, beq_false, I, B, w, vf3_res, vf3_keep, List.length_map, hRe, hRt, hRC, hRC2, hfr, hA2l, p1', q1', r1', z1', t1', v1', p2', q2', r2', z2', t2', v2', p3', q3', r3', z3', t3', v3', p4', q4', r4', z4', t4', v4', p5', q5', r5', z5', t5', v5', Nat.reduceMul, w0, w1, w2, w3, w4]))))))
    (refine RL_head ?_; (simp only [go_sem, Nat.max_zero, List.isEmpty_cons, Int.reduceToNat, Nat.reducePow, Int.reduceEq, Int.reduceNe, Int.reduceLT, Int.reduceLE, Nat.reduceAdd, Nat.reduceLeDiff, ↓reduceIte, Nat.reduceLT, Nat.reduceMul, Nat.reduceSub, reduceCtorEq, beq_iff_eq, bne_iff_ne, bne_self_eq_false, beq_self_eq_true, beq_true, beq_false, I, B, w, St.head, forget, vf3K0, RLK_some, List.length_map, hRe, hRt, hRC, hRC2, hfr, hA2l, p1', q1', r1', z1', t1', v1', p2', q2', r2', z2', t2', v2', p3', q3', r3', z3', t3', v3', p4', q4', r4', z4', t4', v4', p5', q5', r5', z5', t5', v5', Nat.reduceMul, w0, w1, w2, w3, w4]); refine vf3L0_go ?_; ((repeat (first
    | refine RX_seq ?_
    | refine RX_block ?_
    | ((first | refine RX_reg ?_ | refine RX_cond' ?_ | refine RX_draw0 ?_ | refine RX_draw rfl ?_ | refine RX_skip ?_ | refine RX_exit ?_ | refine RX_ret ?_); try (simp only [go_sem, Nat.max_zero, List.isEmpty_cons, Int.reduceToNat, Nat.reducePow, Int.reduceEq, Int.reduceNe, Int.reduceLT, Int.reduceLE, Nat.reduceAdd, Nat.reduceLeDiff, ↓reduceIte, Nat.reduceLT, Nat.reduceMul, Nat.reduceSub, reduceCtorEq, beq_iff_eq, bne_iff_ne, bne_self_eq_false, beq_self_eq_true, beq_true, beq_false, I, B, w, vf3_res, vf3_keep, List.length_map, hRe, hRt, hRC, hRC2, hfr, hA2l, p1', q1', r1', z1', t1', v1', p2', q2', r2', z2', t2', v2', p3', q3', r3', z3', t3', v3', p4', q4', r4', z4', t4', v4', p5', q5', r5', z5', t5', v5', Nat.reduceMul, w0, w1, w2, w3, w4]))))))
    (refine RL_head ?_; (simp only [go_sem, Nat.max_zero, List.isEmpty_cons, Int.reduceToNat, Nat.reducePow, Int.reduceEq, Int.reduceNe, Int.reduceLT, Int.reduceLE, Nat.reduceAdd, Nat.reduceLeDiff, ↓reduceIte, Nat.reduceLT, Nat.reduceMul, Nat.reduceSub, reduceCtorEq, beq_iff_eq, bne_iff_ne, bne_self_eq_false, beq_self_eq_true, beq_true, beq_false, I, B, w, St.head, forget, vf3K0, RLK_some, List.length_map, hRe, hRt, hRC, hRC2, hfr, hA2l, p1', q1', r1', z1', t1', v1', p2', q2', r2', z2', t2', v2', p3', q3', r3', z3', t3', v3', p4', q4', r4', z4', t4', v4', p5', q5', r5', z5', t5', v5', Nat.reduceMul, w0, w1, w2, w3, w4]); refine vf3L0_go ?_; ((repeat (first
    | refine RX_seq ?_
    | refine RX_block ?_
    | ((first | refine RX_reg ?_ | refine RX_cond' ?_ | refine RX_draw0 ?_ | refine RX_draw rfl ?_ | refine RX_skip ?_ | refine RX_exit ?_ | refine RX_ret ?_); try (simp only [go_sem, Nat.max_zero, List.isEmpty_cons, Int.reduceToNat, Nat.reducePow, Int.reduceEq, Int.reduceNe, Int.reduceLT, Int.reduceLE, Nat.reduceAdd, Nat.reduceLeDiff, ↓reduceIte, Nat.reduceLT, Nat.reduceMul, Nat.reduceSub, reduceCtorEq, beq_iff_eq, bne_iff_ne, bne_self_eq_false, beq_self_eq_true, beq_true, beq_false, I, B, w, vf3_res, vf3_keep, List.length_map, hRe, hRt, hRC, hRC2, hfr, hA2l, p1', q1', r1', z1', t1', v1', p2', q2', r2', z2', t2', v2', p3', q3', r3', z3', t3', v3', p4', q4', r4', z4', t4', v4', p5', q5', r5', z5', t5', v5', Nat.reduceMul, w0, w1, w2, w3, w4]))))))
    (refine RL_head ?_; (simp only [go_sem, Nat.max_zero, List.isEmpty_cons, Int.reduceToNat, Nat.reducePow, Int.reduceEq, Int.reduceNe, Int.reduceLT, Int.reduceLE, Nat.reduceAdd, Nat.reduceLeDiff, ↓reduceIte, Nat.reduceLT, Nat.reduceMul, Nat.reduceSub, reduceCtorEq, beq_iff_eq, bne_iff_ne, bne_self_eq_false, beq_self_eq_true, beq_true, beq_false, I, B, w, St.head, forget, vf3K0, RLK_some, List.length_map, hRe, hRt, hRC, hRC2, hfr, hA2l, p1', q1', r1', z1', t1', v1', p2', q2', r2', z2', t2', v2', p3', q3', r3', z3', t3', v3', p4', q4', r4', z4', t4', v4', p5', q5', r5', z5', t5', v5', Nat.reduceMul, w0, w1, w2, w3, w4]); refine vf3L0_go ?_; ((repeat (first
    | refine RX_seq ?_
    | refine RX_block ?_
    | ((first | refine RX_reg ?_ | refine RX_cond' ?_ | refine RX_draw0 ?_ | refine RX_draw rfl ?_ | refine RX_skip ?_ | refine RX_exit ?_ | refine RX_ret ?_); try (simp only [go_sem, Nat.max_zero, List.isEmpty_cons, Int.reduceToNat, Nat.reducePow, Int.reduceEq, Int.reduceNe, Int.reduceLT, Int.reduceLE, Nat.reduceAdd, Nat.reduceLeDiff, ↓reduceIte, Nat.reduceLT, Nat.reduceMul, Nat.reduceSub, reduceCtorEq, beq_iff_eq, bne_iff_ne, bne_self_eq_false, beq_self_eq_true, beq_true, beq_false, I, B, w, vf3_res, vf3_keep, List.length_map, hRe, hRt, hRC, hRC2, hfr, hA2l, p1', q1', r1', z1', t1', v1', p2', q2', r2', z2', t2', v2', p3', q3', r3', z3', t3', v3', p4', q4', r4', z4', t4', v4', p5', q5', r5', z5', t5', v5', Nat.reduceMul, w0, w1, w2, w3, w4]))))))
end Go.Proofs.Ytjhfakhmflemmaa

namespace Go.Proofs.Ytjhfakhmflemmaa
open Go.VM
theorem wt_tm {P : Program} {T : TypeId} {f0 f1 f2 : Field} (hT : P.underlying T = some (.struct #[f0, f1, f2])) (h0 : P.underlying f0.type = some (.int .i64)) (h1 : P.underlying f1.type = some (.int .i64)) (h2 : P.underlying f2.type = some (.slice T)) :
    ∀ (n : Nat) (ds : List D), SizeOf.sizeOf ds < n → WT P T ds → (∀ y ∈ ds, CapD 1048576 y) → ∃ t : Tm, ds = t.row ∧ t.tame
  | 0, ds, h, _, _ => absurd h (Nat.not_lt_zero _)
  | n + 1, ds, hn, hw, hc => by
    obtain ⟨a, b, c, rfl, wa, wb, wc⟩ := WT.st3 hT hw
    obtain ⟨x, rfl, _⟩ := wa.int_inv h0
    obtain ⟨y, rfl, _⟩ := wb.int_inv h1
    obtain ⟨es, rfl, _, hr⟩ := wc.sl_inv h2
    have hce := hc (.sl es) (by simp)
    cases hce with
    | sl _ hl hcr =>
      have hsz : SizeOf.sizeOf es < n := by simp only [List.cons_append, List.nil_append, List.cons.sizeOf_spec, D.sl.sizeOf_spec] at hn; omega
      have : ∀ l : List (List D), (∀ r ∈ l, r ∈ es) → ∃ ts : List Tm, l = ts.map Tm.row ∧ Tm.tames ts := by
        intro l
        induction l with
        | nil => exact fun _ => ⟨[], rfl, trivial⟩
        | cons r l ih =>
          intro hm
          obtain ⟨ts, rfl, h4⟩ := ih fun r' hr' => hm r' (List.mem_cons_of_mem _ hr')
          have hrm := hm r List.mem_cons_self
          obtain ⟨t, rfl, h5⟩ := wt_tm hT h0 h1 h2 n r (by have := List.sizeOf_lt_of_mem hrm; omega) (hr r hrm) (hcr r hrm)
          exact ⟨t :: ts, rfl, h5, h4⟩
      obtain ⟨ts, rfl, h4⟩ := this es fun r h => h
      refine ⟨.mk x y ts, by simp [Tm.row_mk], ?_, h4⟩
      rw [List.length_map] at hl
      omega
end Go.Proofs.Ytjhfakhmflemmaa
