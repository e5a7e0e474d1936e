/- Searching, sorting and composing, on the machine. Conditions: none. -/
import Derived.Test.YtgiciiknagelhaaVe
import Derived.Test.YtgiciiknagelhaaDv1
import Derived.WalkKit
import Derived.Lib.Walk
import Derived.Shelf.RegionOpenPlain
import Derived.Sort.AtCall
import Derived.Sort.WalkB12
import Derived.LoopN
set_option linter.unusedSimpArgs false
set_option linter.unusedVariables false
set_option maxRecDepth 100000
set_option maxHeartbeats 4000000
namespace Go.Proofs.Ytgiciiknagelhaa
open Go.VM
theorem e99L (t u : Tm) (ht : t.small) : CV VP 99 [t.ag, u.ag] [] = some ⟨.d (B (decide (t.cmp u < 0))), [], [], 0⟩ := by
  have h := e119 _ t u (Nat.lt_succ_self _) ht
  obtain ⟨a, b, ts⟩ := t
  obtain ⟨x, y, us⟩ := u
  simp only [Tm.ag, Tm.op_mk, Tm.val_mk, Tm.args_mk] at h ⊢
  refine CV_run (vf := vf99) rfl rfl ?_
  rw [vf99_start]
  (repeat (first
    | refine RX_seq ?_
    | refine RX_block ?_
    | ((first | refine RX_reg ?_ | refine RX_cond' ?_ | refine RX_draw0 ?_ | refine RX_draw rfl ?_ | refine RX_skip ?_ | refine RX_gfrz ?_ | refine RX_exit ?_ | refine RX_ret ?_); try (simp only [go_sem, Nat.max_zero, List.isEmpty_cons, Int.reduceToNat, Nat.reducePow, Int.reduceEq, Int.reduceNe, Int.reduceLT, Int.reduceLE, Nat.reduceAdd, Nat.reduceLeDiff, ↓reduceIte, Nat.reduceLT, Nat.reduceMul, Nat.reduceSub, reduceCtorEq, frzLoc, rowCells, vAppM, beq_iff_eq, bne_iff_ne, bne_self_eq_false, beq_self_eq_true, beq_true, beq_false, I, B, w, vf99_res, vf99_keep, h]))))
def cmpS (t u : Tm) : Int := if t.cmp u < 0 then -1 else if u.cmp t < 0 then 1 else 0
theorem e160 (t u : Tm) (ht : t.small) (hu : u.small) : CV VP 160 [t.ag, u.ag] [] = some ⟨.d (I (cmpS t u)), [], [], 0⟩ := by
  have h1 := e99L t u ht
  have h2 := e99L u t hu
  unfold cmpS
  obtain ⟨a, b, ts⟩ := t
  obtain ⟨x, y, us⟩ := u
  simp only [Tm.ag, Tm.op_mk, Tm.val_mk, Tm.args_mk] at h1 h2 ⊢
  refine CV_run (vf := vf160) rfl rfl ?_
  rw [vf160_start]
  (repeat' (first
    | refine RX_seq ?_
    | refine RX_block ?_
    | ((first | refine RX_reg ?_ | refine RX_cond' ?_ | refine RX_draw0 ?_ | refine RX_draw rfl ?_ | refine RX_skip ?_ | refine RX_gfrz ?_ | refine RX_exit ?_ | refine RX_ret ?_); try (simp only [go_sem, Nat.max_zero, List.isEmpty_cons, Int.reduceToNat, Nat.reducePow, Int.reduceEq, Int.reduceNe, Int.reduceLT, Int.reduceLE, Nat.reduceAdd, Nat.reduceLeDiff, ↓reduceIte, Nat.reduceLT, Nat.reduceMul, Nat.reduceSub, reduceCtorEq, frzLoc, rowCells, vAppM, bne_self_eq_false, beq_self_eq_true, beq_true, beq_false, I, B, w, ibeq, ibne, bbeq, decide_eq_false_iff_not, decide_not, Bool.not_not, Decidable.not_not, Bool.not_eq_eq_eq_not, gt_iff_lt, ge_iff_le, and_false, false_and, or_self, and_self, vf160_res, vf160_keep, h1, h2, *]))
    | (refine ite_ngo (fun _ => ?_) (fun _ => ?_) <;> try (simp only [go_sem, Nat.max_zero, List.isEmpty_cons, Int.reduceToNat, Nat.reducePow, Int.reduceEq, Int.reduceNe, Int.reduceLT, Int.reduceLE, Nat.reduceAdd, Nat.reduceLeDiff, ↓reduceIte, Nat.reduceLT, Nat.reduceMul, Nat.reduceSub, reduceCtorEq, frzLoc, rowCells, vAppM, bne_self_eq_false, beq_self_eq_true, beq_true, beq_false, I, B, w, ibeq, ibne, bbeq, decide_eq_false_iff_not, decide_not, Bool.not_not, Decidable.not_not, Bool.not_eq_eq_eq_not, gt_iff_lt, ge_iff_le, and_false, false_and, or_self, and_self, vf160_res, vf160_keep, h1, h2, *]))
    | (refine ite_go (fun _ => ?_) (fun _ => ?_) <;> try (simp only [go_sem, Nat.max_zero, List.isEmpty_cons, Int.reduceToNat, Nat.reducePow, Int.reduceEq, Int.reduceNe, Int.reduceLT, Int.reduceLE, Nat.reduceAdd, Nat.reduceLeDiff, ↓reduceIte, Nat.reduceLT, Nat.reduceMul, Nat.reduceSub, reduceCtorEq, frzLoc, rowCells, vAppM, bne_self_eq_false, beq_self_eq_true, beq_true, beq_false, I, B, w, ibeq, ibne, bbeq, decide_eq_false_iff_not, decide_not, Bool.not_not, Decidable.not_not, Bool.not_eq_eq_eq_not, gt_iff_lt, ge_iff_le, and_false, false_and, or_self, and_self, vf160_res, vf160_keep, h1, h2, *]))))
end Go.Proofs.Ytgiciiknagelhaa
set_option linter.unusedVariables false
set_option maxRecDepth 100000
set_option maxHeartbeats 4000000
namespace Go.Proofs.Ytgiciiknagelhaa
open Go.VM
instance : Inhabited Tm := ⟨.mk 0 0 []⟩
def bsGo (ks : List Tm) (t : Tm) : Nat → Nat → Nat → Nat
  | 0, i, _ => i
  | f + 1, i, j => if i < j then (if cmpS (ks.getD ((i + j) / 2) default) t < 0 then bsGo ks t f ((i + j) / 2 + 1) j else bsGo ks t f i ((i + j) / 2)) else i
def bsI (ks : List Tm) (t : Tm) : Nat := bsGo ks t ks.length 0 ks.length
def bsF (ks : List Tm) (t : Tm) : Bool := decide (bsI ks t < ks.length) && (cmpS (ks.getD (bsI ks t) default) t == 0)
theorem half_ok {i j : Nat} (h : i + j ≤ 4000000) : vShift BinOp.shr IntKind.u64 (IntKind.u64.wrap (IntKind.i64.wrap ((i : Int) + (j : Int)))) 1 = some (.d (.lit (.int .u64 (((i + j) / 2 : Nat) : Int)))) := by
  have e1 : IntKind.i64.wrap ((i : Int) + (j : Int)) = ((i + j : Nat) : Int) := by rw [w_in (by omega) (by omega)]; omega
  have e2 : IntKind.u64.wrap ((i + j : Nat) : Int) = ((i + j : Nat) : Int) := by rw [IntKind.wrap_u64]; omega
  rw [e1, e2]
  unfold vShift
  simp only
  rw [if_neg (by decide)]
  have : (((i + j : Nat) : Int)).fdiv (2 ^ (min (1 : Int).toNat IntKind.u64.bits)) = (((i + j) / 2 : Nat) : Int) := by
    rw [show (min (1 : Int).toNat IntKind.u64.bits) = 1 from by decide, Int.fdiv_eq_ediv_of_nonneg _ (by decide)]
    omega
  rw [this]
  rfl
set_option maxHeartbeats 8000000 in
theorem e189 (ks : List Tm) (t : Tm) (hks : Tm.smalls ks) (ht : t.small) (hn : ks.length ≤ 1000000) : CV VP 189 [.d (.sl (ks.map Tm.row)), t.ag, .fn 160 []] [] = some ⟨.tup [.d (I (bsI ks t : Nat)), .d (B (bsF ks t))], [], [], 0⟩ := by
  have h160 := fun i (u : Tm) (hu : ks[i]? = some u) => e160 u t (Tm.smalls_mem hks (List.mem_of_getElem? hu)) ht
  obtain ⟨a, b, ts⟩ := t
  simp only [Tm.ag, Tm.op_mk, Tm.val_mk, Tm.args_mk] at h160 ⊢
  refine CV_run (vf := vf189) rfl rfl ?_
  rw [vf189_start]
  (repeat (first
    | refine RX_seq ?_
    | refine RX_block ?_
    | ((first | refine RX_reg ?_ | refine RX_cond' ?_ | refine RX_draw0 ?_ | refine RX_draw rfl ?_ | refine RX_skip ?_ | refine RX_gfrz ?_ | refine RX_exit ?_ | refine RX_ret ?_); try (simp only [go_sem, Nat.max_zero, List.isEmpty_cons, Int.reduceToNat, Nat.reducePow, Int.reduceEq, Int.reduceNe, Int.reduceLT, Int.reduceLE, Nat.reduceAdd, Nat.reduceLeDiff, ↓reduceIte, Nat.reduceLT, Nat.reduceMul, Nat.reduceSub, reduceCtorEq, frzLoc, rowCells, vAppM, beq_iff_eq, bne_iff_ne, bne_self_eq_false, beq_self_eq_true, beq_true, beq_false, I, B, w, vf189_res, vf189_keep, List.length_map]))))
  have w63 : ∀ {x : Int}, 0 ≤ x → x ≤ 4000000 → IntKind.i64.wrap x = x := fun h h' => w_in (by omega) (by omega)
  refine RX_loopN (n := 1) rfl ?_
  refine RL_ind (fun m st => ∃ i j : Nat, i ≤ j ∧ j ≤ ks.length ∧ j - i ≤ m ∧ bsGo ks (.mk a b ts) m i j = bsI ks (.mk a b ts) ∧ At vf189K0 1 st ((.d (.sl (ks.map Tm.row)) :: .any :: .fn 160 [] :: .any :: .ptr 0 0 :: .any :: .any :: .any :: .d (I (ks.length : Nat)) :: .d (I (i : Nat)) :: .d (I (j : Nat)) :: .any :: .any :: .any :: .any :: .any :: .any :: .any :: .any :: .any :: .any :: .any :: .any :: .any :: .any :: .any :: .any :: .any :: .any :: .any :: .any :: .any :: .any :: .any :: .any :: .any :: .any :: .any :: .any :: .any :: .any :: .any :: .any :: .any :: .any :: .any :: .any :: .any :: .any :: [])) [[.d (I a), .d (I b), .d (.sl (ts.map Tm.row))]] [] 0 0) ?_ ks.length _ ⟨0, ks.length, Nat.zero_le _, Nat.le_refl _, by omega, rfl, ⟨rfl, rfl, rfl, rfl, rfl, rfl⟩⟩
  rintro m st ⟨i, j, hij, hj, hm, hb, hat⟩ ih
  refine RL_at hat rfl rfl (vf189L0_go ?_)
  clear hat
  by_cases h1 : i < j
  · obtain ⟨m, rfl⟩ : ∃ m', m = m' + 1 := ⟨m - 1, by omega⟩
    rw [bsGo, if_pos h1] at hb
    obtain ⟨h, hh⟩ : ∃ h, h = (i + j) / 2 := ⟨_, rfl⟩
    rw [← hh] at hb
    have hl : h < ks.length := by omega
    obtain ⟨u, hu⟩ : ∃ u, ks[h]? = some u := ⟨_, List.getElem?_eq_getElem hl⟩
    have hru : (ks.map Tm.row)[h]? = some u.row := by rw [List.getElem?_map, hu]; rfl
    rw [List.getD_eq_getElem?_getD, hu, Option.getD_some] at hb
    have h160' := h160 h u hu
    have hv := half_ok (i := i) (j := j) (by omega)
    rw [← hh] at hv
    have hwh : IntKind.i64.wrap (h : Int) = (h : Int) := w_in (by omega) (by omega)
    have hwi := w_nat (i := h) (by omega)
    simp only [Tm.row_eq] at hru
    by_cases hc : cmpS u (.mk a b ts) < 0
    · rw [if_pos hc] at hb
      (repeat (first
    | refine RX_seq ?_
    | refine RX_block ?_
    | ((first | refine RX_reg ?_ | refine RX_cond' ?_ | refine RX_draw0 ?_ | refine RX_draw rfl ?_ | refine RX_skip ?_ | refine RX_gfrz ?_ | refine RX_exit ?_ | refine RX_ret ?_); try (simp only [go_sem, Nat.max_zero, List.isEmpty_cons, Int.reduceToNat, Nat.reducePow, Int.reduceEq, Int.reduceNe, Int.reduceLT, Int.reduceLE, Nat.reduceAdd, Nat.reduceLeDiff, ↓reduceIte, Nat.reduceLT, Nat.reduceMul, Nat.reduceSub, reduceCtorEq, frzLoc, rowCells, vAppM, beq_iff_eq, bne_iff_ne, bne_self_eq_false, beq_self_eq_true, beq_true, beq_false, I, B, w, vf189_res, vf189_keep, List.length_map, h1, hru, h160', hc, hv, hwh, hwi, hl]))))
      exact ih m _ (Nat.lt_succ_self m) ⟨h + 1, j, by omega, hj, by omega, hb, rfl, rfl, rfl, rfl, rfl, rfl⟩
    · rw [if_neg hc] at hb
      (repeat (first
    | refine RX_seq ?_
    | refine RX_block ?_
    | ((first | refine RX_reg ?_ | refine RX_cond' ?_ | refine RX_draw0 ?_ | refine RX_draw rfl ?_ | refine RX_skip ?_ | refine RX_gfrz ?_ | refine RX_exit ?_ | refine RX_ret ?_); try (simp only [go_sem, Nat.max_zero, List.isEmpty_cons, Int.reduceToNat, Nat.reducePow, Int.reduceEq, Int.reduceNe, Int.reduceLT, Int.reduceLE, Nat.reduceAdd, Nat.reduceLeDiff, ↓reduceIte, Nat.reduceLT, Nat.reduceMul, Nat.reduceSub, reduceCtorEq, frzLoc, rowCells, vAppM, beq_iff_eq, bne_iff_ne, bne_self_eq_false, beq_self_eq_true, beq_true, beq_false, I, B, w, vf189_res, vf189_keep, List.length_map, h1, hru, h160', hc, hv, hwh, hwi, hl]))))
      exact ih m _ (Nat.lt_succ_self m) ⟨i, h, by omega, by omega, by omega, hb, rfl, rfl, rfl, rfl, rfl, rfl⟩
  · obtain rfl : i = j := by omega
    have hb' : i = bsI ks (.mk a b ts) := by
      cases m with
      | zero => exact hb
      | succ m => rw [bsGo, if_neg h1] at hb; exact hb
    clear hb ih hm
    have hF : bsF ks (.mk a b ts) = (decide (i < ks.length) && (cmpS (ks.getD i default) (.mk a b ts) == 0)) := by rw [bsF, ← hb']
    rw [hF, ← hb']
    by_cases h2 : i < ks.length
    · obtain ⟨u, hu⟩ : ∃ u, ks[i]? = some u := ⟨_, List.getElem?_eq_getElem h2⟩
      have hru : (ks.map Tm.row)[i]? = some u.row := by rw [List.getElem?_map, hu]; rfl
      have h160' := h160 i u hu
      simp only [Tm.row_eq] at hru
      rw [List.getD_eq_getElem?_getD, hu, Option.getD_some]
      (repeat (first
    | refine RX_seq ?_
    | refine RX_block ?_
    | ((first | refine RX_reg ?_ | refine RX_cond' ?_ | refine RX_draw0 ?_ | refine RX_draw rfl ?_ | refine RX_skip ?_ | refine RX_gfrz ?_ | refine RX_exit ?_ | refine RX_ret ?_); try (simp only [go_sem, Nat.max_zero, List.isEmpty_cons, Int.reduceToNat, Nat.reducePow, Int.reduceEq, Int.reduceNe, Int.reduceLT, Int.reduceLE, Nat.reduceAdd, Nat.reduceLeDiff, ↓reduceIte, Nat.reduceLT, Nat.reduceMul, Nat.reduceSub, reduceCtorEq, frzLoc, rowCells, vAppM, beq_iff_eq, bne_iff_ne, bne_self_eq_false, beq_self_eq_true, beq_true, beq_false, I, B, w, vf189_res, vf189_keep, List.length_map, h1, h2, hru, h160', Bool.true_and]))))
    · (repeat (first
    | refine RX_seq ?_
    | refine RX_block ?_
    | ((first | refine RX_reg ?_ | refine RX_cond' ?_ | refine RX_draw0 ?_ | refine RX_draw rfl ?_ | refine RX_skip ?_ | refine RX_gfrz ?_ | refine RX_exit ?_ | refine RX_ret ?_); try (simp only [go_sem, Nat.max_zero, List.isEmpty_cons, Int.reduceToNat, Nat.reducePow, Int.reduceEq, Int.reduceNe, Int.reduceLT, Int.reduceLE, Nat.reduceAdd, Nat.reduceLeDiff, ↓reduceIte, Nat.reduceLT, Nat.reduceMul, Nat.reduceSub, reduceCtorEq, frzLoc, rowCells, vAppM, beq_iff_eq, bne_iff_ne, bne_self_eq_false, beq_self_eq_true, beq_true, beq_false, I, B, w, vf189_res, vf189_keep, List.length_map, h1, h2, Bool.false_and]))))
theorem e161 (ks : List Tm) (t : Tm) (hks : Tm.smalls ks) (ht : t.small) (hn : ks.length ≤ 1000000) : CV VP 161 [.d (.sl (ks.map Tm.row)), t.ag] [] = some ⟨.d (B (bsF ks t)), [], [], 0⟩ := by
  have h := e189 ks t hks ht hn
  obtain ⟨a, b, ts⟩ := t
  simp only [Tm.ag, Tm.op_mk, Tm.val_mk, Tm.args_mk] at h ⊢
  refine CV_run (vf := vf161) rfl rfl ?_
  rw [vf161_start]
  (repeat (first
    | refine RX_seq ?_
    | refine RX_block ?_
    | ((first | refine RX_reg ?_ | refine RX_cond' ?_ | refine RX_draw0 ?_ | refine RX_draw rfl ?_ | refine RX_skip ?_ | refine RX_gfrz ?_ | refine RX_exit ?_ | refine RX_ret ?_); try (simp only [go_sem, Nat.max_zero, List.isEmpty_cons, Int.reduceToNat, Nat.reducePow, Int.reduceEq, Int.reduceNe, Int.reduceLT, Int.reduceLE, Nat.reduceAdd, Nat.reduceLeDiff, ↓reduceIte, Nat.reduceLT, Nat.reduceMul, Nat.reduceSub, reduceCtorEq, frzLoc, rowCells, vAppM, beq_iff_eq, bne_iff_ne, bne_self_eq_false, beq_self_eq_true, beq_true, beq_false, I, B, w, vf161_res, vf161_keep, h]))))
end Go.Proofs.Ytgiciiknagelhaa
set_option linter.unusedVariables false
set_option maxRecDepth 100000
set_option maxHeartbeats 4000000
namespace Go.Proofs.Ytgiciiknagelhaa
open Go.VM
def fiI (p : Tm → Bool) : Nat → List Tm → Int
  | _, [] => -1
  | i, t :: ts => if p t then (i : Int) else fiI p (i + 1) ts
theorem fiI_any (p : Tm → Bool) : ∀ (i : Nat) (ts : List Tm), decide (fiI p i ts ≥ 0) = ts.any p
  | i, [] => rfl
  | i, t :: ts => by
    rw [fiI, List.any_cons]
    by_cases h : p t
    · rw [if_pos h, h, Bool.true_or]; simp
    · rw [if_neg h, fiI_any p (i + 1) ts]; simp [h]
set_option maxHeartbeats 8000000 in
theorem e158a (K : List (List D)) (x y z : D) (p : Tm → Bool) (ts : List Tm) (hn : ts.length < 1099511627776) (hp : ∀ u ∈ ts, CV VP 163 (u.ag :: [.ptr 0 0]) [[.d (.sl K)], [.d x, .d y, .d z]] = some ⟨.d (B (p u)), [[.d (.sl K)], [.d x, .d y, .d z]], [], 0⟩) :
    CV VP 158 [.d (.sl (ts.map Tm.row)), .fn 163 [.ptr 0 0]] [[.d (.sl K)], [.d x, .d y, .d z]] = some ⟨.d (I (fiI p 0 ts)), [[.d (.sl K)], [.d x, .d y, .d z]], [], 0⟩ := by
  refine CV_run (vf := vf158) rfl rfl ?_
  rw [vf158_start]
  (repeat (first
    | refine RX_seq ?_
    | refine RX_block ?_
    | ((first | refine RX_reg ?_ | refine RX_cond' ?_ | refine RX_draw0 ?_ | refine RX_draw rfl ?_ | refine RX_skip ?_ | refine RX_gfrz ?_ | refine RX_exit ?_ | refine RX_ret ?_); try (simp only [go_sem, Nat.max_zero, List.isEmpty_cons, Int.reduceToNat, Nat.reducePow, Int.reduceEq, Int.reduceNe, Int.reduceLT, Int.reduceLE, Nat.reduceAdd, Nat.reduceLeDiff, ↓reduceIte, Nat.reduceLT, Nat.reduceMul, Nat.reduceSub, reduceCtorEq, frzLoc, rowCells, vAppM, beq_iff_eq, bne_iff_ne, bne_self_eq_false, beq_self_eq_true, beq_true, beq_false, I, B, w, vf158_res, vf158_keep, List.length_map]))))
  refine RX_loopN (n := 2) rfl ?_
  refine RL_ind (fun m st => ∃ i : Nat, i + m = ts.length ∧ fiI p i (ts.drop i) = fiI p 0 ts ∧ At vf158K0 2 st ((.d (.sl (ts.map Tm.row)) :: .fn 163 [.ptr 0 0] :: .any :: .any :: .any :: .any :: .any :: .d (I (ts.length : Nat)) :: .d (I (i : Nat)) :: .any :: .any :: .any :: .any :: .any :: .any :: .any :: .any :: .any :: .any :: [])) [[.d (.sl K)], [.d x, .d y, .d z]] [] 0 2) ?_ ts.length _ ⟨0, Nat.zero_add _, rfl, ⟨rfl, rfl, rfl, rfl, rfl, rfl⟩⟩
  rintro m st ⟨i, hi, hc, hat⟩ ih
  refine RL_at hat rfl rfl (vf158L0_go ?_)
  clear hat
  cases m with
  | zero =>
    have h1 : ¬ i < ts.length := by omega
    rw [List.drop_eq_nil_of_le (by omega), fiI] at hc
    rw [← hc]
    (repeat (first
    | refine RX_seq ?_
    | refine RX_block ?_
    | ((first | refine RX_reg ?_ | refine RX_cond' ?_ | refine RX_draw0 ?_ | refine RX_draw rfl ?_ | refine RX_skip ?_ | refine RX_gfrz ?_ | refine RX_exit ?_ | refine RX_ret ?_); try (simp only [go_sem, Nat.max_zero, List.isEmpty_cons, Int.reduceToNat, Nat.reducePow, Int.reduceEq, Int.reduceNe, Int.reduceLT, Int.reduceLE, Nat.reduceAdd, Nat.reduceLeDiff, ↓reduceIte, Nat.reduceLT, Nat.reduceMul, Nat.reduceSub, reduceCtorEq, frzLoc, rowCells, vAppM, beq_iff_eq, bne_iff_ne, bne_self_eq_false, beq_self_eq_true, beq_true, beq_false, I, B, w, vf158_res, vf158_keep, h1]))))
  | succ m =>
    have h1 : i < ts.length := by omega
    obtain ⟨t, ht⟩ : ∃ t, ts[i]? = some t := ⟨_, List.getElem?_eq_getElem h1⟩
    have hrt : (ts.map Tm.row)[i]? = some t.row := by rw [List.getElem?_map, ht]; rfl
    have hpt := hp t (List.mem_of_getElem? ht)
    have hwi := w_nat (i := i) (by omega)
    rw [List.drop_eq_getElem_cons h1, fiI, show ts[i] = t from by rw [List.getElem?_eq_getElem h1] at ht; exact Option.some.inj ht] at hc
    simp only [Tm.row_eq] at hrt
    simp only [Tm.ag] at hpt
    by_cases h0 : p t = true
    · rw [if_pos h0] at hc
      rw [← hc]
      rw [h0] at hpt
      (repeat (first
    | refine RX_seq ?_
    | refine RX_block ?_
    | ((first | refine RX_reg ?_ | refine RX_cond' ?_ | refine RX_draw0 ?_ | refine RX_draw rfl ?_ | refine RX_skip ?_ | refine RX_gfrz ?_ | refine RX_exit ?_ | refine RX_ret ?_); try (simp only [go_sem, Nat.max_zero, List.isEmpty_cons, Int.reduceToNat, Nat.reducePow, Int.reduceEq, Int.reduceNe, Int.reduceLT, Int.reduceLE, Nat.reduceAdd, Nat.reduceLeDiff, ↓reduceIte, Nat.reduceLT, Nat.reduceMul, Nat.reduceSub, reduceCtorEq, frzLoc, rowCells, vAppM, beq_iff_eq, bne_iff_ne, bne_self_eq_false, beq_self_eq_true, beq_true, beq_false, I, B, w, vf158_res, vf158_keep, List.length_map, h1, hrt, hpt, hwi]))))
    · rw [if_neg h0] at hc
      rw [Bool.not_eq_true] at h0
      rw [h0] at hpt
      (repeat (first
    | refine RX_seq ?_
    | refine RX_block ?_
    | ((first | refine RX_reg ?_ | refine RX_cond' ?_ | refine RX_draw0 ?_ | refine RX_draw rfl ?_ | refine RX_skip ?_ | refine RX_gfrz ?_ | refine RX_exit ?_ | refine RX_ret ?_); try (simp only [go_sem, Nat.max_zero, List.isEmpty_cons, Int.reduceToNat, Nat.reducePow, Int.reduceEq, Int.reduceNe, Int.reduceLT, Int.reduceLE, Nat.reduceAdd, Nat.reduceLeDiff, ↓reduceIte, Nat.reduceLT, Nat.reduceMul, Nat.reduceSub, reduceCtorEq, frzLoc, rowCells, vAppM, beq_iff_eq, bne_iff_ne, bne_self_eq_false, beq_self_eq_true, beq_true, beq_false, I, B, w, vf158_res, vf158_keep, List.length_map, h1, hrt, hpt, hwi]))))
      exact ih m _ (Nat.lt_succ_self m) ⟨i + 1, by omega, hc, rfl, rfl, rfl, rfl, rfl, rfl⟩
theorem e92a (K : List (List D)) (x y z : D) (p : Tm → Bool) (ts : List Tm) (hn : ts.length < 1099511627776) (hp : ∀ u ∈ ts, CV VP 163 (u.ag :: [.ptr 0 0]) [[.d (.sl K)], [.d x, .d y, .d z]] = some ⟨.d (B (p u)), [[.d (.sl K)], [.d x, .d y, .d z]], [], 0⟩) :
    CV VP 92 [.d (.sl (ts.map Tm.row)), .fn 163 [.ptr 0 0]] [[.d (.sl K)], [.d x, .d y, .d z]] = some ⟨.d (B (ts.any p)), [[.d (.sl K)], [.d x, .d y, .d z]], [], 0⟩ := by
  have h := e158a K x y z p ts hn hp
  rw [← fiI_any p 0 ts]
  refine CV_run (vf := vf92) rfl rfl ?_
  rw [vf92_start]
  (repeat (first
    | refine RX_seq ?_
    | refine RX_block ?_
    | ((first | refine RX_reg ?_ | refine RX_cond' ?_ | refine RX_draw0 ?_ | refine RX_draw rfl ?_ | refine RX_skip ?_ | refine RX_gfrz ?_ | refine RX_exit ?_ | refine RX_ret ?_); try (simp only [go_sem, Nat.max_zero, List.isEmpty_cons, Int.reduceToNat, Nat.reducePow, Int.reduceEq, Int.reduceNe, Int.reduceLT, Int.reduceLE, Nat.reduceAdd, Nat.reduceLeDiff, ↓reduceIte, Nat.reduceLT, Nat.reduceMul, Nat.reduceSub, reduceCtorEq, frzLoc, rowCells, vAppM, beq_iff_eq, bne_iff_ne, bne_self_eq_false, beq_self_eq_true, beq_true, beq_false, I, B, w, vf92_res, vf92_keep, h]))))
end Go.Proofs.Ytgiciiknagelhaa
set_option linter.unusedVariables false
set_option maxRecDepth 100000
set_option maxHeartbeats 4000000
namespace Go.Proofs.Ytgiciiknagelhaa
open Go.VM
def pubT (t : Tm) : Tm := .mk 4 0 [t]
theorem e38 (t : Tm) : CV VP 38 [t.ag] [] = some ⟨(pubT t).ag, [], [], 0⟩ := by
  obtain ⟨a, b, ts⟩ := t
  simp only [pubT, Tm.ag, Tm.op_mk, Tm.val_mk, Tm.args_mk, List.map_cons, List.map_nil, Tm.row_mk]
  refine CV_run (vf := vf38) rfl rfl ?_
  rw [vf38_start]
  (repeat (first
    | refine RX_seq ?_
    | refine RX_block ?_
    | ((first | refine RX_reg ?_ | refine RX_cond' ?_ | refine RX_draw0 ?_ | refine RX_draw rfl ?_ | refine RX_skip ?_ | refine RX_gfrz ?_ | refine RX_exit ?_ | refine RX_ret ?_); try (simp only [go_sem, Nat.max_zero, List.isEmpty_cons, Int.reduceToNat, Nat.reducePow, Int.reduceEq, Int.reduceNe, Int.reduceLT, Int.reduceLE, Nat.reduceAdd, Nat.reduceLeDiff, ↓reduceIte, Nat.reduceLT, Nat.reduceMul, Nat.reduceSub, reduceCtorEq, frzLoc, rowCells, vAppM, beq_iff_eq, bne_iff_ne, bne_self_eq_false, beq_self_eq_true, beq_true, beq_false, I, B, w, vf38_res, vf38_keep]))))
theorem e164 (o v : Int) (r : D) : CV VP 164 [.agg [.d (I o), .d (I v), .d r]] [] = some ⟨.d (I (if o = 2 then w (v.tdiv 1048576) else -1)), [], [], 0⟩ := by
  refine CV_run (vf := vf164) rfl rfl ?_
  rw [vf164_start]
  (repeat' (first
    | refine RX_seq ?_
    | refine RX_block ?_
    | ((first | refine RX_reg ?_ | refine RX_cond' ?_ | refine RX_draw0 ?_ | refine RX_draw rfl ?_ | refine RX_skip ?_ | refine RX_gfrz ?_ | refine RX_exit ?_ | refine RX_ret ?_); try (simp only [go_sem, Nat.max_zero, List.isEmpty_cons, Int.reduceToNat, Nat.reducePow, Int.reduceEq, Int.reduceNe, Int.reduceLT, Int.reduceLE, Nat.reduceAdd, Nat.reduceLeDiff, ↓reduceIte, Nat.reduceLT, Nat.reduceMul, Nat.reduceSub, reduceCtorEq, frzLoc, rowCells, vAppM, bne_self_eq_false, beq_self_eq_true, beq_true, beq_false, I, B, w, ibeq, ibne, bbeq, decide_eq_false_iff_not, decide_not, Bool.not_not, Decidable.not_not, Bool.not_eq_eq_eq_not, gt_iff_lt, ge_iff_le, and_false, false_and, or_self, and_self, vf164_res, vf164_keep, *]))
    | (refine ite_ngo (fun _ => ?_) (fun _ => ?_) <;> try (simp only [go_sem, Nat.max_zero, List.isEmpty_cons, Int.reduceToNat, Nat.reducePow, Int.reduceEq, Int.reduceNe, Int.reduceLT, Int.reduceLE, Nat.reduceAdd, Nat.reduceLeDiff, ↓reduceIte, Nat.reduceLT, Nat.reduceMul, Nat.reduceSub, reduceCtorEq, frzLoc, rowCells, vAppM, bne_self_eq_false, beq_self_eq_true, beq_true, beq_false, I, B, w, ibeq, ibne, bbeq, decide_eq_false_iff_not, decide_not, Bool.not_not, Decidable.not_not, Bool.not_eq_eq_eq_not, gt_iff_lt, ge_iff_le, and_false, false_and, or_self, and_self, vf164_res, vf164_keep, *]))
    | (refine ite_go (fun _ => ?_) (fun _ => ?_) <;> try (simp only [go_sem, Nat.max_zero, List.isEmpty_cons, Int.reduceToNat, Nat.reducePow, Int.reduceEq, Int.reduceNe, Int.reduceLT, Int.reduceLE, Nat.reduceAdd, Nat.reduceLeDiff, ↓reduceIte, Nat.reduceLT, Nat.reduceMul, Nat.reduceSub, reduceCtorEq, frzLoc, rowCells, vAppM, bne_self_eq_false, beq_self_eq_true, beq_true, beq_false, I, B, w, ibeq, ibne, bbeq, decide_eq_false_iff_not, decide_not, Bool.not_not, Decidable.not_not, Bool.not_eq_eq_eq_not, gt_iff_lt, ge_iff_le, and_false, false_and, or_self, and_self, vf164_res, vf164_keep, *]))))
def secF (ks : List Tm) (v : Int) : Bool := bsF ks (.mk 9 v []) || (v == 2)
mutual
def canF (ks : List Tm) : Tm → Bool
  | .mk o v ts => if bsF ks (.mk o v ts) = true then true else if o = 1 then true else if o = 10 then true else if o = 2 then w (v.tdiv 1048576) == 2 else if o = 9 then v == 2 else
      if o = 3 then canA ks ts else if o = 6 then canA ks ts else if o = 4 then canA ks ts else if o = 7 then decide ((ts.length : Int) = 2) && canA ks ts else
      if o = 8 then (decide ((ts.length : Int) = 1) && secF ks v) && canA ks ts else if o = 5 then canP ks ts else false
def canA (ks : List Tm) : List Tm → Bool
  | [] => true
  | t :: ts => canF ks t && canA ks ts
def canP (ks : List Tm) : List Tm → Bool
  | [a, b] => (canF ks a && (canF ks b || bsF ks (pubT b))) || (canF ks b && bsF ks (pubT a))
  | _ => false
end
theorem canA_all (ks : List Tm) : ∀ ts, canA ks ts = ts.all (canF ks)
  | [] => rfl
  | t :: ts => by rw [canA, List.all_cons, canA_all ks ts]
theorem canA_any (ks : List Tm) (ts : List Tm) : (!(ts.any (fun u => !canF ks u))) = canA ks ts := by
  rw [canA_all, List.any_eq_not_all_not]; simp
set_option maxHeartbeats 8000000 in
theorem e95s (ks : List Tm) (v : Int) (hks : Tm.smalls ks) (hn : ks.length ≤ 1000000) : CV VP 95 [.d (.sl (ks.map Tm.row)), .agg [.d (I 9), .d (I v), .d (.sl [])]] [] = some ⟨.d (B (secF ks v)), [], [], 0⟩ := by
  have h161 := e161 ks (.mk 9 v []) hks ⟨by decide, trivial⟩ hn
  simp only [Tm.ag, Tm.op_mk, Tm.val_mk, Tm.args_mk, List.map_nil] at h161
  unfold secF
  generalize bsF ks (.mk 9 v []) = b at h161 ⊢
  generalize ks.map Tm.row = K at h161 ⊢
  refine CV_run (vf := vf95) rfl rfl ?_
  rw [vf95_start]
  (repeat' (first
    | refine RX_seq ?_
    | refine RX_block ?_
    | ((first | refine RX_reg ?_ | refine RX_cond' ?_ | refine RX_draw0 ?_ | refine RX_draw rfl ?_ | refine RX_skip ?_ | refine RX_gfrz ?_ | refine RX_exit ?_ | refine RX_ret ?_); try (simp only [go_sem, Nat.max_zero, List.isEmpty_cons, Int.reduceToNat, Nat.reducePow, Int.reduceEq, Int.reduceNe, Int.reduceLT, Int.reduceLE, Nat.reduceAdd, Nat.reduceLeDiff, ↓reduceIte, Nat.reduceLT, Nat.reduceMul, Nat.reduceSub, reduceCtorEq, frzLoc, rowCells, vAppM, bne_self_eq_false, beq_self_eq_true, beq_true, beq_false, I, B, w, ibeq, ibne, bbeq, decide_eq_false_iff_not, decide_not, Bool.not_not, Decidable.not_not, Bool.not_eq_eq_eq_not, gt_iff_lt, ge_iff_le, and_false, false_and, or_self, and_self, vf95_res, vf95_keep, h161, *]))
    | (refine ite_ngo (fun _ => ?_) (fun _ => ?_) <;> try (simp only [go_sem, Nat.max_zero, List.isEmpty_cons, Int.reduceToNat, Nat.reducePow, Int.reduceEq, Int.reduceNe, Int.reduceLT, Int.reduceLE, Nat.reduceAdd, Nat.reduceLeDiff, ↓reduceIte, Nat.reduceLT, Nat.reduceMul, Nat.reduceSub, reduceCtorEq, frzLoc, rowCells, vAppM, bne_self_eq_false, beq_self_eq_true, beq_true, beq_false, I, B, w, ibeq, ibne, bbeq, decide_eq_false_iff_not, decide_not, Bool.not_not, Decidable.not_not, Bool.not_eq_eq_eq_not, gt_iff_lt, ge_iff_le, and_false, false_and, or_self, and_self, vf95_res, vf95_keep, h161, *]))
    | (refine ite_go (fun _ => ?_) (fun _ => ?_) <;> try (simp only [go_sem, Nat.max_zero, List.isEmpty_cons, Int.reduceToNat, Nat.reducePow, Int.reduceEq, Int.reduceNe, Int.reduceLT, Int.reduceLE, Nat.reduceAdd, Nat.reduceLeDiff, ↓reduceIte, Nat.reduceLT, Nat.reduceMul, Nat.reduceSub, reduceCtorEq, frzLoc, rowCells, vAppM, bne_self_eq_false, beq_self_eq_true, beq_true, beq_false, I, B, w, ibeq, ibne, bbeq, decide_eq_false_iff_not, decide_not, Bool.not_not, Decidable.not_not, Bool.not_eq_eq_eq_not, gt_iff_lt, ge_iff_le, and_false, false_and, or_self, and_self, vf95_res, vf95_keep, h161, *]))))
end Go.Proofs.Ytgiciiknagelhaa
set_option linter.unusedVariables false
set_option maxRecDepth 100000
set_option maxHeartbeats 4000000
namespace Go.Proofs.Ytgiciiknagelhaa
open Go.VM
set_option maxHeartbeats 8000000 in
theorem e165 (ks : List Tm) (a b : Tm) (hks : Tm.smalls ks) (hn : ks.length ≤ 1000000) (ha : a.small) (hb : b.small) (h1 : CV VP 95 [.d (.sl (ks.map Tm.row)), a.ag] [] = some ⟨.d (B (canF ks a)), [], [], 0⟩)
    (h2 : CV VP 95 [.d (.sl (ks.map Tm.row)), b.ag] [] = some ⟨.d (B (canF ks b)), [], [], 0⟩) : CV VP 165 [.d (.sl (ks.map Tm.row)), a.ag, b.ag] [] = some ⟨.d (B (canP ks [a, b])), [], [], 0⟩ := by
  have h3 := e161 ks (pubT a) hks ⟨by simp, ha, trivial⟩ hn
  have h4 := e161 ks (pubT b) hks ⟨by simp, hb, trivial⟩ hn
  have h5 := e38 a
  have h6 := e38 b
  rw [canP]
  generalize canF ks a = p at *
  generalize canF ks b = q at *
  generalize bsF ks (pubT a) = pa at *
  generalize bsF ks (pubT b) = pb at *
  generalize ks.map Tm.row = K at *
  obtain ⟨o, v, ts⟩ := a
  obtain ⟨x, y, us⟩ := b
  simp only [pubT, Tm.ag, Tm.op_mk, Tm.val_mk, Tm.args_mk, List.map_cons, List.map_nil, Tm.row_mk] at *
  refine CV_run (vf := vf165) rfl rfl ?_
  rw [vf165_start]
  cases p <;> cases q <;> cases pa <;> cases pb <;> ((repeat (first
    | refine RX_seq ?_
    | refine RX_block ?_
    | ((first | refine RX_reg ?_ | refine RX_cond' ?_ | refine RX_draw0 ?_ | refine RX_draw rfl ?_ | refine RX_skip ?_ | refine RX_gfrz ?_ | refine RX_exit ?_ | refine RX_ret ?_); try (simp only [go_sem, Nat.max_zero, List.isEmpty_cons, Int.reduceToNat, Nat.reducePow, Int.reduceEq, Int.reduceNe, Int.reduceLT, Int.reduceLE, Nat.reduceAdd, Nat.reduceLeDiff, ↓reduceIte, Nat.reduceLT, Nat.reduceMul, Nat.reduceSub, reduceCtorEq, frzLoc, rowCells, vAppM, beq_iff_eq, bne_iff_ne, bne_self_eq_false, beq_self_eq_true, beq_true, beq_false, I, B, w, vf165_res, vf165_keep, h1, h2, h3, h4, h5, h6])))))
set_option maxHeartbeats 8000000 in
theorem e163 (K : List (List D)) (x y z : D) (u : Tm) (p : Bool) (h1 : CV VP 95 [.d (.sl K), u.ag] [] = some ⟨.d (B p), [], [], 0⟩) : CV VP 163 [u.ag, .ptr 0 0] [[.d (.sl K)], [.d x, .d y, .d z]] = some ⟨.d (B (!p)), [[.d (.sl K)], [.d x, .d y, .d z]], [], 0⟩ := by
  obtain ⟨o, v, ts⟩ := u
  simp only [Tm.ag, Tm.op_mk, Tm.val_mk, Tm.args_mk] at *
  refine CV_run (vf := vf163) rfl rfl ?_
  rw [vf163_start]
  (repeat (first
    | refine RX_seq ?_
    | refine RX_block ?_
    | ((first | refine RX_reg ?_ | refine RX_cond' ?_ | refine RX_draw0 ?_ | refine RX_draw rfl ?_ | refine RX_skip ?_ | refine RX_gfrz ?_ | refine RX_exit ?_ | refine RX_ret ?_); try (simp only [go_sem, Nat.max_zero, List.isEmpty_cons, Int.reduceToNat, Nat.reducePow, Int.reduceEq, Int.reduceNe, Int.reduceLT, Int.reduceLE, Nat.reduceAdd, Nat.reduceLeDiff, ↓reduceIte, Nat.reduceLT, Nat.reduceMul, Nat.reduceSub, reduceCtorEq, frzLoc, rowCells, vAppM, beq_iff_eq, bne_iff_ne, bne_self_eq_false, beq_self_eq_true, beq_true, beq_false, I, B, w, vf163_res, vf163_keep, h1]))))
set_option maxHeartbeats 8000000 in
theorem e162 (ks : List Tm) (o v : Int) (ts : List Tm) (hn : ts.length < 1099511627776) (h1 : ∀ u ∈ ts, CV VP 95 [.d (.sl (ks.map Tm.row)), u.ag] [] = some ⟨.d (B (canF ks u)), [], [], 0⟩) :
    CV VP 162 [.ptr 1 0, .ptr 0 0] [[.d (.sl (ks.map Tm.row))], [.d (I o), .d (I v), .d (.sl (ts.map Tm.row))]] = some ⟨.d (B (canA ks ts)), [[.d (.sl (ks.map Tm.row))], [.d (I o), .d (I v), .d (.sl (ts.map Tm.row))]], [], 0⟩ := by
  have h2 := e92a (ks.map Tm.row) (I o) (I v) (.sl (ts.map Tm.row)) (fun u => !canF ks u) ts hn (fun u hu => e163 _ _ _ _ u _ (h1 u hu))
  rw [← canA_any]
  generalize (ts.any fun u => !canF ks u) = q at *
  generalize ks.map Tm.row = K at *
  refine CV_run (vf := vf162) rfl rfl ?_
  rw [vf162_start]
  (repeat (first
    | refine RX_seq ?_
    | refine RX_block ?_
    | ((first | refine RX_reg ?_ | refine RX_cond' ?_ | refine RX_draw0 ?_ | refine RX_draw rfl ?_ | refine RX_skip ?_ | refine RX_gfrz ?_ | refine RX_exit ?_ | refine RX_ret ?_); try (simp only [go_sem, Nat.max_zero, List.isEmpty_cons, Int.reduceToNat, Nat.reducePow, Int.reduceEq, Int.reduceNe, Int.reduceLT, Int.reduceLE, Nat.reduceAdd, Nat.reduceLeDiff, ↓reduceIte, Nat.reduceLT, Nat.reduceMul, Nat.reduceSub, reduceCtorEq, frzLoc, rowCells, vAppM, beq_iff_eq, bne_iff_ne, bne_self_eq_false, beq_self_eq_true, beq_true, beq_false, I, B, w, vf162_res, vf162_keep, h2]))))
end Go.Proofs.Ytgiciiknagelhaa
set_option linter.unusedVariables false
set_option maxRecDepth 100000
set_option maxHeartbeats 4000000
namespace Go.Proofs.Ytgiciiknagelhaa
open Go.VM
theorem canP_no {ks ts : List Tm} (h : ts.length ≠ 2) : canP ks ts = false := by
  match ts, h with
  | [], _ => rfl
  | [_], _ => rfl
  | [_, _], h => exact absurd rfl h
  | _ :: _ :: _ :: _, _ => rfl
set_option maxHeartbeats 16000000 in
theorem e95' (ks : List Tm) (hks : Tm.smalls ks) (hn : ks.length ≤ 1000000) : ∀ (n : Nat) (t : Tm), SizeOf.sizeOf t < n → t.small → CV VP 95 [.d (.sl (ks.map Tm.row)), t.ag] [] = some ⟨.d (B (canF ks t)), [], [], 0⟩
  | 0, t, h, _ => absurd h (Nat.not_lt_zero _)
  | n + 1, .mk o v ts, hlt, hs => by
    have ih : ∀ u ∈ ts, CV VP 95 [.d (.sl (ks.map Tm.row)), u.ag] [] = some ⟨.d (B (canF ks u)), [], [], 0⟩ := fun u hu => e95' ks hks hn n u (by
      have := List.sizeOf_lt_of_mem hu
      simp only [Tm.mk.sizeOf_spec] at hlt
      omega) (Tm.smalls_mem hs.2 hu)
    have h161 := e161 ks (.mk o v ts) hks hs hn
    have h162 := fun o : Int => e162 ks o v ts hs.1 ih
    have h164 : CV VP 164 [.agg [.d (I 2), .d (I v), .d (.sl (ts.map Tm.row))]] [] = some ⟨.d (I (w (v.tdiv 1048576))), [], [], 0⟩ := e164 2 v (.sl (ts.map Tm.row))
    have hsec := e95s ks v hks hn
    have h165 : (∃ a b, ts = [a, b] ∧ CV VP 165 [.d (.sl (ks.map Tm.row)), a.ag, b.ag] [] = some ⟨.d (B (canP ks ts)), [], [], 0⟩) ∨ ts.length ≠ 2 := by
      match ts, ih, hs with
      | [a, b], ih, hs => exact .inl ⟨a, b, rfl, e165 ks a b hks hn hs.2.1 hs.2.2.1 (ih a (by simp)) (ih b (by simp))⟩
      | [], _, _ => exact .inr (by simp)
      | [_], _, _ => exact .inr (by simp)
      | _ :: _ :: _ :: _, _, _ => exact .inr (by simp)
    have hmax : max 2 1 = 2 := rfl
    rw [canF]
    rcases h165 with ⟨a, b, rfl, h165⟩ | hl
    · generalize bsF ks (.mk o v [a, b]) = q at *
      generalize canA ks [a, b] = ea at *
      generalize canP ks [a, b] = ep at *
      generalize secF ks v = es at *
      generalize ks.map Tm.row = K at *
      clear ih hs hlt
      obtain ⟨oa, va, ta⟩ := a
      obtain ⟨ob, vb, tb⟩ := b
      simp only [Tm.ag, Tm.op_mk, Tm.val_mk, Tm.args_mk, List.map_cons, List.map_nil, Tm.row_mk] at *
      refine CV_run (vf := vf95) rfl rfl ?_
      rw [vf95_start]
      (repeat' (first
    | refine RX_seq ?_
    | refine RX_block ?_
    | ((first | refine RX_reg ?_ | refine RX_cond' ?_ | refine RX_draw0 ?_ | refine RX_draw rfl ?_ | refine RX_skip ?_ | refine RX_gfrz ?_ | refine RX_exit ?_ | refine RX_ret ?_); try (simp only [go_sem, Nat.max_zero, List.isEmpty_cons, Int.reduceToNat, Nat.reducePow, Int.reduceEq, Int.reduceNe, Int.reduceLT, Int.reduceLE, Nat.reduceAdd, Nat.reduceLeDiff, ↓reduceIte, Nat.reduceLT, Nat.reduceMul, Nat.reduceSub, reduceCtorEq, frzLoc, rowCells, vAppM, bne_self_eq_false, beq_self_eq_true, beq_true, beq_false, I, B, w, ibeq, ibne, bbeq, decide_eq_false_iff_not, decide_not, Bool.not_not, Decidable.not_not, Bool.not_eq_eq_eq_not, gt_iff_lt, ge_iff_le, and_false, false_and, or_self, and_self, vf95_res, vf95_keep, h161, h162, hmax, h164, hsec, h165, *]))
    | (refine ite_ngo (fun _ => ?_) (fun _ => ?_) <;> try (simp only [go_sem, Nat.max_zero, List.isEmpty_cons, Int.reduceToNat, Nat.reducePow, Int.reduceEq, Int.reduceNe, Int.reduceLT, Int.reduceLE, Nat.reduceAdd, Nat.reduceLeDiff, ↓reduceIte, Nat.reduceLT, Nat.reduceMul, Nat.reduceSub, reduceCtorEq, frzLoc, rowCells, vAppM, bne_self_eq_false, beq_self_eq_true, beq_true, beq_false, I, B, w, ibeq, ibne, bbeq, decide_eq_false_iff_not, decide_not, Bool.not_not, Decidable.not_not, Bool.not_eq_eq_eq_not, gt_iff_lt, ge_iff_le, and_false, false_and, or_self, and_self, vf95_res, vf95_keep, h161, h162, hmax, h164, hsec, h165, *]))
    | (refine ite_go (fun _ => ?_) (fun _ => ?_) <;> try (simp only [go_sem, Nat.max_zero, List.isEmpty_cons, Int.reduceToNat, Nat.reducePow, Int.reduceEq, Int.reduceNe, Int.reduceLT, Int.reduceLE, Nat.reduceAdd, Nat.reduceLeDiff, ↓reduceIte, Nat.reduceLT, Nat.reduceMul, Nat.reduceSub, reduceCtorEq, frzLoc, rowCells, vAppM, bne_self_eq_false, beq_self_eq_true, beq_true, beq_false, I, B, w, ibeq, ibne, bbeq, decide_eq_false_iff_not, decide_not, Bool.not_not, Decidable.not_not, Bool.not_eq_eq_eq_not, gt_iff_lt, ge_iff_le, and_false, false_and, or_self, and_self, vf95_res, vf95_keep, h161, h162, hmax, h164, hsec, h165, *]))))
      all_goals rfl
    · have hl2 : ¬ ((ts.length : Int) = 2) := by omega
      rw [canP_no hl]
      generalize bsF ks (.mk o v ts) = q at *
      generalize canA ks ts = ea at *
      generalize secF ks v = es at *
      generalize ks.map Tm.row = K at *
      clear ih hs hlt
      simp only [Tm.ag, Tm.op_mk, Tm.val_mk, Tm.args_mk] at *
      refine CV_run (vf := vf95) rfl rfl ?_
      rw [vf95_start]
      (repeat' (first
    | refine RX_seq ?_
    | refine RX_block ?_
    | ((first | refine RX_reg ?_ | refine RX_cond' ?_ | refine RX_draw0 ?_ | refine RX_draw rfl ?_ | refine RX_skip ?_ | refine RX_gfrz ?_ | refine RX_exit ?_ | refine RX_ret ?_); try (simp only [go_sem, Nat.max_zero, List.isEmpty_cons, Int.reduceToNat, Nat.reducePow, Int.reduceEq, Int.reduceNe, Int.reduceLT, Int.reduceLE, Nat.reduceAdd, Nat.reduceLeDiff, ↓reduceIte, Nat.reduceLT, Nat.reduceMul, Nat.reduceSub, reduceCtorEq, frzLoc, rowCells, vAppM, bne_self_eq_false, beq_self_eq_true, beq_true, beq_false, I, B, w, ibeq, ibne, bbeq, decide_eq_false_iff_not, decide_not, Bool.not_not, Decidable.not_not, Bool.not_eq_eq_eq_not, gt_iff_lt, ge_iff_le, and_false, false_and, or_self, and_self, vf95_res, vf95_keep, h161, h162, hmax, h164, hsec, List.length_map, hl2, *]))
    | (refine ite_ngo (fun _ => ?_) (fun _ => ?_) <;> try (simp only [go_sem, Nat.max_zero, List.isEmpty_cons, Int.reduceToNat, Nat.reducePow, Int.reduceEq, Int.reduceNe, Int.reduceLT, Int.reduceLE, Nat.reduceAdd, Nat.reduceLeDiff, ↓reduceIte, Nat.reduceLT, Nat.reduceMul, Nat.reduceSub, reduceCtorEq, frzLoc, rowCells, vAppM, bne_self_eq_false, beq_self_eq_true, beq_true, beq_false, I, B, w, ibeq, ibne, bbeq, decide_eq_false_iff_not, decide_not, Bool.not_not, Decidable.not_not, Bool.not_eq_eq_eq_not, gt_iff_lt, ge_iff_le, and_false, false_and, or_self, and_self, vf95_res, vf95_keep, h161, h162, hmax, h164, hsec, List.length_map, hl2, *]))
    | (refine ite_go (fun _ => ?_) (fun _ => ?_) <;> try (simp only [go_sem, Nat.max_zero, List.isEmpty_cons, Int.reduceToNat, Nat.reducePow, Int.reduceEq, Int.reduceNe, Int.reduceLT, Int.reduceLE, Nat.reduceAdd, Nat.reduceLeDiff, ↓reduceIte, Nat.reduceLT, Nat.reduceMul, Nat.reduceSub, reduceCtorEq, frzLoc, rowCells, vAppM, bne_self_eq_false, beq_self_eq_true, beq_true, beq_false, I, B, w, ibeq, ibne, bbeq, decide_eq_false_iff_not, decide_not, Bool.not_not, Decidable.not_not, Bool.not_eq_eq_eq_not, gt_iff_lt, ge_iff_le, and_false, false_and, or_self, and_self, vf95_res, vf95_keep, h161, h162, hmax, h164, hsec, List.length_map, hl2, *]))))
      all_goals rfl
theorem e95 (ks : List Tm) (hks : Tm.smalls ks) (hn : ks.length ≤ 1000000) (t : Tm) (ht : t.small) : CV VP 95 [.d (.sl (ks.map Tm.row)), t.ag] [] = some ⟨.d (B (canF ks t)), [], [], 0⟩ := e95' ks hks hn _ t (Nat.lt_succ_self _) ht
end Go.Proofs.Ytgiciiknagelhaa
set_option linter.unusedVariables false
set_option maxRecDepth 100000
set_option maxHeartbeats 4000000
namespace Go.Proofs.Ytgiciiknagelhaa
open Go.VM
def rC (A : List Tm) : List V := rowCells (A.map Tm.row)
theorem rC_cons (a : Tm) (A : List Tm) : rC (a :: A) = .d (I a.op) :: .d (I a.val) :: .d (.sl (a.args.map Tm.row)) :: rC A := by
  simp [rC, rowCells, Tm.row_eq]
theorem rC_len : ∀ A : List Tm, (rC A).length = A.length * 3
  | [] => rfl
  | a :: A => by rw [rC_cons]; simp only [List.length_cons, rC_len A]; omega
theorem rC_get : ∀ {A : List Tm} {j : Nat} {t : Tm} (_ : A[j]? = some t), List.take 3 (List.drop (j * 3) (rC A)) = [.d (I t.op), .d (I t.val), .d (.sl (t.args.map Tm.row))]
  | [], j, t, h => by simp at h
  | a :: A, 0, t, h => by
    simp only [List.getElem?_cons_zero, Option.some.injEq] at h
    subst h
    rw [rC_cons]; simp
  | a :: A, j + 1, t, h => by
    have ih := rC_get (A := A) (j := j) (t := t) (by simpa using h)
    have e1 : (j + 1) * 3 = j * 3 + 1 + 1 + 1 := by omega
    rw [e1, rC_cons]
    simp only [List.drop_succ_cons]
    exact ih
theorem rC_set : ∀ {A : List Tm} {j : Nat} (_ : j < A.length) (t : Tm), List.take (j * 3) (rC A) ++ [.d (I t.op), .d (I t.val), .d (.sl (t.args.map Tm.row))] ++ List.drop (j * 3 + 3) (rC A) = rC (A.set j t)
  | [], j, h, t => by simp at h
  | a :: A, 0, h, t => by
    rw [rC_cons, List.set_cons_zero, rC_cons]
    simp
  | a :: A, j + 1, h, t => by
    have ih := rC_set (A := A) (j := j) (by simpa using h) t
    have e1 : (j + 1) * 3 = j * 3 + 1 + 1 + 1 := by omega
    have e2 : j * 3 + 1 + 1 + 1 + 3 = j * 3 + 3 + 1 + 1 + 1 := by omega
    rw [e1, e2, rC_cons, List.set_cons_succ, rC_cons]
    simp only [List.take_succ_cons, List.drop_succ_cons, List.cons_append]
    rw [ih]
theorem rC_ltb (n : Nat) : ∀ A : List Tm, V.ltbL n (rC A) = true
  | [] => rfl
  | a :: A => by rw [rC_cons]; simp only [V.ltbL, V.ltb, Bool.true_and, rC_ltb n A]
theorem rC_er : ∀ A : List Tm, V.erL (rC A) = rC A
  | [] => rfl
  | a :: A => by rw [rC_cons]; simp only [V.erL, V.er, rC_er A]
theorem rC_all (x y z : D) (A : List Tm) : [[.d x, .d y, .d z], rC A].all (V.ltbL 2) = true := by simp only [List.all_cons, rC_ltb, List.all_nil, Bool.and_self, V.ltbL, V.ltb]
def sift (A : List Tm) : Nat → List Tm
  | 0 => A
  | j + 1 => if cmpS (A.getD (j + 1) default) (A.getD j default) < 0 then sift ((A.set (j + 1) (A.getD j default)).set j (A.getD (j + 1) default)) j else A
theorem sift_len : ∀ (j : Nat) (A : List Tm), (sift A j).length = A.length
  | 0, A => rfl
  | j + 1, A => by
    rw [sift]; split
    · rw [sift_len j]; simp
    · rfl
theorem smalls_set {t : Tm} (ht : t.small) : ∀ {A : List Tm} (j : Nat), Tm.smalls A → Tm.smalls (A.set j t)
  | [], _, _ => trivial
  | a :: A, 0, h => ⟨ht, h.2⟩
  | a :: A, j + 1, h => ⟨h.1, smalls_set ht j h.2⟩
theorem smalls_getD : ∀ {A : List Tm} (j : Nat), Tm.smalls A → (A.getD j default).small
  | [], _, _ => ⟨by decide, trivial⟩
  | a :: A, 0, h => h.1
  | a :: A, j + 1, h => smalls_getD (A := A) j h.2
theorem sift_smalls : ∀ (j : Nat) (A : List Tm), Tm.smalls A → Tm.smalls (sift A j)
  | 0, A, h => h
  | j + 1, A, h => by
    rw [sift]; split
    · exact sift_smalls j _ (smalls_set (smalls_getD _ h) _ (smalls_set (smalls_getD _ h) _ h))
    · exact h
set_option maxHeartbeats 8000000 in
theorem e202i (x y z : D) {n : Nat} (hn : n ≤ 1000) {Q : VExit → St → Prop} :
    ∀ (j : Nat) (A : List Tm) (i : Nat) (st : St), A.length = n → j < n → Tm.smalls A → At vf202K1 2 st ((.loc 1 0 n 3 :: .d (I 0) :: .d (I (n : Nat)) :: .fn 160 [] :: .any :: .any :: .any :: .any :: .d (I (i : Nat)) :: .d (I (j : Nat)) :: .any :: .any :: .any :: .any :: .any :: .any :: .any :: .any :: .any :: .any :: .any :: .any :: .any :: .any :: .any :: .any :: .any :: .any :: .any :: .any :: .any :: .any :: .any :: .any :: .any :: .any :: .any :: .any :: .any :: .any :: .any :: .any :: .any :: .any :: .any :: .any :: .any :: .any :: .any :: .any :: .any :: .any :: .any :: [])) [[.d x, .d y, .d z], rC A] [] 0 2 →
      (∀ x9 x10 x11 x12 x13 x14 x15 x16 x17 x18 x19 x20 x21 x22 x23 x24 x25 x26 x27 x28 x29 x30 x31 x32 x33 x34 x35 x36 x37 x38 x39 x40 x41 x42 x43 x44 x45 x46 x47 x48 x49 x50 x51 x52 : V, Q (.exit 2) ⟨[.loc 1 0 n 3, .d (I 0), .d (I (n : Nat)), .fn 160 [], .any, .any, .any, .any, .d (I (i : Nat)), x9, x10, x11, x12, x13, x14, x15, x16, x17, x18, x19, x20, x21, x22, x23, x24, x25, x26, x27, x28, x29, x30, x31, x32, x33, x34, x35, x36, x37, x38, x39, x40, x41, x42, x43, x44, x45, x46, x47, x48, x49, x50, x51, x52], [[.d x, .d y, .d z], rC (sift A j)], [], 0, 2, 0⟩) → RL VP vf202K1 vf202L1 2 st Q := by
  intro j
  induction j with
  | zero =>
    intro A i st hA hj hs hat hend
    refine RL_at hat rfl (rC_all x y z A) (vf202L1_go ?_)
    clear hat
    (repeat (first
    | refine RX_seq ?_
    | refine RX_block ?_
    | ((first | refine RX_reg ?_ | refine RX_cond' ?_ | refine RX_draw0 ?_ | refine RX_draw rfl ?_ | refine RX_skip ?_ | refine RX_gfrz ?_ | refine RX_exit ?_ | refine RX_ret ?_); try (simp only [go_sem, Nat.max_zero, List.isEmpty_cons, Int.reduceToNat, Nat.reducePow, Int.reduceEq, Int.reduceNe, Int.reduceLT, Int.reduceLE, Nat.reduceAdd, Nat.reduceLeDiff, ↓reduceIte, Nat.reduceLT, Nat.reduceMul, Nat.reduceSub, reduceCtorEq, frzLoc, rowCells, vAppM, beq_iff_eq, bne_iff_ne, bne_self_eq_false, beq_self_eq_true, beq_true, beq_false, I, B, w, vf202_res, vf202_keep]))))
    exact hend _ _ _ _ _ _ _ _ _ _ _ _ _ _ _ _ _ _ _ _ _ _ _ _ _ _ _ _ _ _ _ _ _ _ _ _ _ _ _ _ _ _ _ _
  | succ j ih =>
    intro A i st hA hj hs hat hend
    refine RL_at hat rfl (rC_all x y z A) (vf202L1_go ?_)
    clear hat
    obtain ⟨t, ht⟩ : ∃ t, A[j + 1]? = some t := ⟨_, List.getElem?_eq_getElem (by omega)⟩
    obtain ⟨u, hu⟩ : ∃ u, A[j]? = some u := ⟨_, List.getElem?_eq_getElem (by omega)⟩
    have h160 := e160 t u (Tm.smalls_mem hs (List.mem_of_getElem? ht)) (Tm.smalls_mem hs (List.mem_of_getElem? hu))
    have g1 := rC_get ht
    have g2 := rC_get hu
    have hl := rC_len A
    have hwj : IntKind.i64.wrap (((j + 1 : Nat) : Int) - 1) = (j : Nat) := by rw [w_in (by omega) (by omega)]; omega
    have h0 : ((j + 1 : Nat) : Int) > 0 := by omega
    simp only [Tm.ag] at h160
    have b1 : (j + 1) * 3 + 3 ≤ n * 3 := by omega
    have b2 : j * 3 + 3 ≤ n * 3 := by omega
    have hj2 : j < n := by omega
    have q1 : A.getD (j + 1) default = t := by rw [List.getD_eq_getElem?_getD, ht]; rfl
    have q2 : A.getD j default = u := by rw [List.getD_eq_getElem?_getD, hu]; rfl
    rw [sift, q1, q2] at hend
    by_cases hc : cmpS t u < 0
    · have hj1 : j + 1 < A.length := by omega
      have s1 := rC_set (A := A) (j := j + 1) hj1 u
      have s2 := rC_set (A := A.set (j + 1) u) (j := j) (by simp; omega) t
      have hl1 := rC_len (A.set (j + 1) u)
      rw [List.length_set] at hl1
      (repeat (first
    | refine RX_seq ?_
    | refine RX_block ?_
    | ((first | refine RX_reg ?_ | refine RX_cond' ?_ | refine RX_draw0 ?_ | refine RX_draw rfl ?_ | refine RX_skip ?_ | refine RX_gfrz ?_ | refine RX_exit ?_ | refine RX_ret ?_); try (simp only [go_sem, Nat.max_zero, List.isEmpty_cons, Int.reduceToNat, Nat.reducePow, Int.reduceEq, Int.reduceNe, Int.reduceLT, Int.reduceLE, Nat.reduceAdd, Nat.reduceLeDiff, ↓reduceIte, Nat.reduceLT, Nat.reduceMul, Nat.reduceSub, reduceCtorEq, frzLoc, rowCells, vAppM, beq_iff_eq, bne_iff_ne, bne_self_eq_false, beq_self_eq_true, beq_true, beq_false, I, B, w, vf202_res, vf202_keep, hA, hl, hl1, g1, g2, h160, hwj, h0, hc, hj, hj2, b1, b2, s1, s2]))))
      rw [if_pos hc] at hend
      exact ih _ i _ (by simp [hA]) hj2 (smalls_set (Tm.smalls_mem hs (List.mem_of_getElem? ht)) _ (smalls_set (Tm.smalls_mem hs (List.mem_of_getElem? hu)) _ hs)) ⟨rfl, rfl, rfl, rfl, rfl, rfl⟩ hend
    · (repeat (first
    | refine RX_seq ?_
    | refine RX_block ?_
    | ((first | refine RX_reg ?_ | refine RX_cond' ?_ | refine RX_draw0 ?_ | refine RX_draw rfl ?_ | refine RX_skip ?_ | refine RX_gfrz ?_ | refine RX_exit ?_ | refine RX_ret ?_); try (simp only [go_sem, Nat.max_zero, List.isEmpty_cons, Int.reduceToNat, Nat.reducePow, Int.reduceEq, Int.reduceNe, Int.reduceLT, Int.reduceLE, Nat.reduceAdd, Nat.reduceLeDiff, ↓reduceIte, Nat.reduceLT, Nat.reduceMul, Nat.reduceSub, reduceCtorEq, frzLoc, rowCells, vAppM, beq_iff_eq, bne_iff_ne, bne_self_eq_false, beq_self_eq_true, beq_true, beq_false, I, B, w, vf202_res, vf202_keep, hA, hl, g1, g2, h160, hwj, h0, hc, hj, hj2, b1, b2]))))
      rw [if_neg hc] at hend
      exact hend _ _ _ _ _ _ _ _ _ _ _ _ _ _ _ _ _ _ _ _ _ _ _ _ _ _ _ _ _ _ _ _ _ _ _ _ _ _ _ _ _ _ _ _
def isort (A : List Tm) : Nat → Nat → List Tm
  | _, 0 => A
  | i, m + 1 => isort (sift A i) (i + 1) m
theorem isort_len : ∀ (m i : Nat) (A : List Tm), (isort A i m).length = A.length
  | 0, i, A => rfl
  | m + 1, i, A => by rw [isort, isort_len m, sift_len]
theorem isort_smalls : ∀ (m i : Nat) (A : List Tm), Tm.smalls A → Tm.smalls (isort A i m)
  | 0, i, A, h => h
  | m + 1, i, A, h => by rw [isort]; exact isort_smalls m _ _ (sift_smalls _ _ h)
set_option maxHeartbeats 8000000 in
theorem e202 (x y z : D) (ks : List Tm) (hs : Tm.smalls ks) (h0 : 0 < ks.length) (hn : ks.length ≤ 1000) : CV VP 202 [.loc 1 0 ks.length 3, .d (I 0), .d (I (ks.length : Nat)), .fn 160 []] [[.d x, .d y, .d z], rC ks] = some ⟨.tup [], [[.d x, .d y, .d z], rC (isort ks 1 (ks.length - 1))], [], 0⟩ := by
  generalize hN : ks.length = n at *
  refine CV_run (vf := vf202) rfl rfl ?_
  rw [vf202_start]
  have hw : IntKind.i64.wrap (0 + 1) = 1 := rfl
  (repeat (first
    | refine RX_seq ?_
    | refine RX_block ?_
    | ((first | refine RX_reg ?_ | refine RX_cond' ?_ | refine RX_draw0 ?_ | refine RX_draw rfl ?_ | refine RX_skip ?_ | refine RX_gfrz ?_ | refine RX_exit ?_ | refine RX_ret ?_); try (simp only [go_sem, Nat.max_zero, List.isEmpty_cons, Int.reduceToNat, Nat.reducePow, Int.reduceEq, Int.reduceNe, Int.reduceLT, Int.reduceLE, Nat.reduceAdd, Nat.reduceLeDiff, ↓reduceIte, Nat.reduceLT, Nat.reduceMul, Nat.reduceSub, reduceCtorEq, frzLoc, rowCells, vAppM, beq_iff_eq, bne_iff_ne, bne_self_eq_false, beq_self_eq_true, beq_true, beq_false, I, B, w, vf202_res, vf202_keep, hw]))))
  refine RX_loopN (n := 2) rfl ?_
  refine RL_ind (fun m st => ∃ (i : Nat) (A : List Tm), i + m = n ∧ 1 ≤ i ∧ A.length = n ∧ Tm.smalls A ∧ isort A i m = isort ks 1 (n - 1) ∧ At vf202K0 2 st ((.loc 1 0 n 3 :: .d (I 0) :: .d (I (n : Nat)) :: .fn 160 [] :: .any :: .any :: .any :: .any :: .d (I (i : Nat)) :: .any :: .any :: .any :: .any :: .any :: .any :: .any :: .any :: .any :: .any :: .any :: .any :: .any :: .any :: .any :: .any :: .any :: .any :: .any :: .any :: .any :: .any :: .any :: .any :: .any :: .any :: .any :: .any :: .any :: .any :: .any :: .any :: .any :: .any :: .any :: .any :: .any :: .any :: .any :: .any :: .any :: .any :: .any :: .any :: [])) [[.d x, .d y, .d z], rC A] [] 0 2) ?_ (n - 1) _ ⟨1, ks, by omega, Nat.le_refl _, hN, hs, rfl, ⟨rfl, rfl, rfl, rfl, rfl, rfl⟩⟩
  rintro m st ⟨i, A, hi, hi1, hA, hsA, hI, hat⟩ ih
  refine RL_at hat rfl (rC_all x y z A) (vf202L0_go ?_)
  clear hat
  cases m with
  | zero =>
    have h1 : ¬ i < n := by omega
    rw [isort] at hI
    rw [← hI]
    (repeat (first
    | refine RX_seq ?_
    | refine RX_block ?_
    | ((first | refine RX_reg ?_ | refine RX_cond' ?_ | refine RX_draw0 ?_ | refine RX_draw rfl ?_ | refine RX_skip ?_ | refine RX_gfrz ?_ | refine RX_exit ?_ | refine RX_ret ?_); try (simp only [go_sem, Nat.max_zero, List.isEmpty_cons, Int.reduceToNat, Nat.reducePow, Int.reduceEq, Int.reduceNe, Int.reduceLT, Int.reduceLE, Nat.reduceAdd, Nat.reduceLeDiff, ↓reduceIte, Nat.reduceLT, Nat.reduceMul, Nat.reduceSub, reduceCtorEq, frzLoc, rowCells, vAppM, beq_iff_eq, bne_iff_ne, bne_self_eq_false, beq_self_eq_true, beq_true, beq_false, I, B, w, vf202_res, vf202_keep, h1, rC_ltb]))))
  | succ m =>
    have h1 : i < n := by omega
    have hwi := w_nat (i := i) (by omega)
    rw [isort] at hI
    (repeat (first
    | refine RX_seq ?_
    | refine RX_block ?_
    | ((first | refine RX_reg ?_ | refine RX_cond' ?_ | refine RX_draw0 ?_ | refine RX_draw rfl ?_ | refine RX_skip ?_ | refine RX_gfrz ?_ | refine RX_exit ?_ | refine RX_ret ?_); try (simp only [go_sem, Nat.max_zero, List.isEmpty_cons, Int.reduceToNat, Nat.reducePow, Int.reduceEq, Int.reduceNe, Int.reduceLT, Int.reduceLE, Nat.reduceAdd, Nat.reduceLeDiff, ↓reduceIte, Nat.reduceLT, Nat.reduceMul, Nat.reduceSub, reduceCtorEq, frzLoc, rowCells, vAppM, beq_iff_eq, bne_iff_ne, bne_self_eq_false, beq_self_eq_true, beq_true, beq_false, I, B, w, vf202_res, vf202_keep, h1]))))
    refine RX_loopN (n := 2) rfl ?_
    refine e202i x y z hn i A i _ hA h1 hsA ⟨rfl, rfl, rfl, rfl, rfl, rfl⟩ ?_
    intro x9 x10 x11 x12 x13 x14 x15 x16 x17 x18 x19 x20 x21 x22 x23 x24 x25 x26 x27 x28 x29 x30 x31 x32 x33 x34 x35 x36 x37 x38 x39 x40 x41 x42 x43 x44 x45 x46 x47 x48 x49 x50 x51 x52
    (repeat (first
    | refine RX_seq ?_
    | refine RX_block ?_
    | ((first | refine RX_reg ?_ | refine RX_cond' ?_ | refine RX_draw0 ?_ | refine RX_draw rfl ?_ | refine RX_skip ?_ | refine RX_gfrz ?_ | refine RX_exit ?_ | refine RX_ret ?_); try (simp only [go_sem, Nat.max_zero, List.isEmpty_cons, Int.reduceToNat, Nat.reducePow, Int.reduceEq, Int.reduceNe, Int.reduceLT, Int.reduceLE, Nat.reduceAdd, Nat.reduceLeDiff, ↓reduceIte, Nat.reduceLT, Nat.reduceMul, Nat.reduceSub, reduceCtorEq, frzLoc, rowCells, vAppM, beq_iff_eq, bne_iff_ne, bne_self_eq_false, beq_self_eq_true, beq_true, beq_false, I, B, w, vf202_res, vf202_keep, hwi]))))
    exact ih m _ (Nat.lt_succ_self m) ⟨i + 1, sift A i, by omega, by omega, by rw [sift_len, hA], sift_smalls _ _ hsA, hI, rfl, rfl, rfl, rfl, rfl, rfl⟩
end Go.Proofs.Ytgiciiknagelhaa
set_option linter.unusedVariables false
namespace Go.Proofs.Ytgiciiknagelhaa
open Go.VM Go.Shelf Go.RowKit Go.Lib Go.Sort
theorem enters202 (args : Array Value) (w : World) : (callFunc 202 args).run Try.prog w = .ok (.enter 202 args) w := by
  obtain ⟨fn, code, h1, h2, h3, _⟩ := (compS_ok vf202_ok).ex
  exact run_callFunc h1 (by rw [h2]; rfl) h3
set_option maxHeartbeats 2000000 in
set_option maxRecDepth 100000 in
theorem pdq_vc {x0 : V} {n : Nat} {lim : Int} {blks : List (List V)} {ret : Ret} (hr : ret.r = .tup []) (h12 : n ≤ 12) (hvc : VC Try.prog 202 [x0, .d (I 0), .d (I (n : Nat)), .fn 160 []] blks ret) :
    VC Try.prog 187 [x0, .d (I 0), .d (I (n : Nat)), .d (I lim), .fn 160 []] blks ret := by
  intro G w xs hargs hR
  have h5 : xs.size = 5 := hargs.1
  obtain ⟨v0, v1, v2, v3, v4, rfl⟩ : ∃ x0 x1 x2 x3 x4, xs = #[x0, x1, x2, x3, x4] := by
    obtain ⟨l⟩ := xs
    match l, h5 with
    | [a, b, c, d, e], _ => exact ⟨a, b, c, d, e, rfl⟩
  have r0 := hargs.2 0 _ _ rfl rfl
  have r1 := hargs.2 1 _ _ rfl rfl
  have r2 := hargs.2 2 _ _ rfl rfl
  have r3 := hargs.2 3 _ _ rfl rfl
  have r4 := hargs.2 4 _ _ rfl rfl
  have H := hvc G w #[v0, v1, v2, v4] ⟨rfl, fun j c x hc hx => by
    match j, hc, hx with
    | 0, hc, hx => simp at hc hx; subst hc hx; exact r0
    | 1, hc, hx => simp at hc hx; subst hc hx; exact r1
    | 2, hc, hx => simp at hc hx; subst hc hx; exact r2
    | 3, hc, hx => simp at hc hx; subst hc hx; exact r4
    | n + 4, hc, hx => simp at hc⟩ hR
  cases r1 with | d r1 =>
  cases r1 with | lit _ _ =>
  cases r2 with | d r2 =>
  cases r2 with | lit _ _ =>
  cases r3 with | d r3 =>
  cases r3 with | lit _ _ =>
  have e202 := enters202
  have mixed : Try.prog.follows .mixedOrders = true := by kernel_rfl
  have hn12 : (n : Int) ≤ 12 := by omega
  have hw : IntKind.i64.wrap ((n : Int) - 0) = n := by rw [IntKind.wrap_i64]; omega
  have hw2 : IntKind.i64.wrap (n : Int) = n := by rw [IntKind.wrap_i64]; omega
  clear hargs hR hvc
  go_enter Try.func187, Try.ntmps187
  go_wp2
  refine wp_loop_rounds 1 ?_
  rw [rounds_succ]
  go_wp2_with (go_at_fn 202; refine H.mono ?_; rintro e w' ⟨v, G', rfl, hv, hR'⟩)
  (try simp only [Exit.inBlock, Exit.then]); refine bodyPost_ret (results_none rfl _ _ _) rfl ?_
  refine ⟨.tuple #[], G', rfl, ?_, hR'⟩
  rw [hr]
  exact .tup rfl (fun j c x hj => by simp at hj)
end Go.Proofs.Ytgiciiknagelhaa
set_option linter.unusedVariables false
set_option maxRecDepth 100000
set_option maxHeartbeats 4000000
namespace Go.Proofs.Ytgiciiknagelhaa
open Go.VM
noncomputable def sortNat : Orc := fun f a b => if f = 187 then match a with
  | [x0, .d (.lit (.int .i64 z0)), .d (.lit (.int .i64 (.ofNat n))), .d (.lit (.int .i64 lim)), .fn g []] => if z0 = 0 ∧ n ≤ 12 ∧ g = 160 then match CV VP 202 [x0, .d (I 0), .d (I (n : Nat)), .fn 160 []] b with
    | some ⟨.tup [], rb, lv, gn⟩ => some ⟨.tup [], rb, lv, gn⟩
    | _ => none else none
  | _ => none else none
theorem fitsT : Fits Try.prog = true := by kernel_rfl
theorem sortNat_ok : OrcOk Try.prog sortNat := by
  intro f a b r h
  unfold sortNat at h
  split at h
  case isFalse => cases h
  rename_i hf
  subst hf
  split at h
  case h_2 => cases h
  rename_i x0 z0 n lim g
  split at h
  case isFalse => cases h
  rename_i hc
  obtain ⟨rfl, h12, rfl⟩ := hc
  split at h
  case h_2 => cases h
  rename_i rb lv gn hcv
  simp only [Option.some.injEq] at h
  subst h
  exact pdq_vc rfl h12 ((CV_sound VP_ok fitsT 202 _ _ _ hcv).1 (by decide))
theorem sortNat_f {f : FuncId} {a : List V} {b : List (List V)} {r : Ret} (h : sortNat f a b = some r) : f = 187 := by
  unfold sortNat at h
  split at h
  · assumption
  · cases h
theorem sortNat_fn : OrcFn Try.prog sortNat := fun f a b r h => by
  rw [sortNat_f h]
  exact ⟨_, Try.func187, by kernel_rfl, by kernel_rfl⟩
noncomputable def VPS : VProg := ⟨VP.fn, orN sortNat VP.nat⟩
theorem VPS_ok : CProg Try.prog VPS := cprog_or VP_ok sortNat_ok sortNat_fn
theorem upS {f : FuncId} {a : List V} {b : List (List V)} {r : Ret} (h : CV VP f a b = some r) : CV VPS f a b = some r :=
  CV_moreI (fun f a b r h => by obtain rfl := sortNat_f h; exact ⟨.inl (by decide), rfl, fun _ _ => rfl⟩) h
theorem e187 {x0 : V} {n : Nat} {lim : Int} {b rb : List (List V)} (h12 : n ≤ 12) (h : CV VP 202 [x0, .d (I 0), .d (I (n : Nat)), .fn 160 []] b = some ⟨.tup [], rb, [], 0⟩) : CV VPS 187 [x0, .d (I 0), .d (I (n : Nat)), .d (I lim), .fn 160 []] b = some ⟨.tup [], rb, [], 0⟩ :=
  CV_nat (by
    show orN sortNat VP.nat 187 _ b = _
    unfold orN sortNat
    simp only [if_true]
    rw [if_pos ⟨trivial, h12, trivial⟩, h])
theorem e188 {n : Nat} (h : n ≤ 12) : ∃ lim : Int, CV VP 188 [.d (.lit (.int .u64 (n : Nat)))] [] = some ⟨.d (I lim), [], [], 0⟩ := by
  match n, h with
  | 0, _ => exact ⟨0, CV_C 400 (by kernel_rfl)⟩
  | 1, _ => exact ⟨1, CV_C 400 (by kernel_rfl)⟩
  | 2, _ => exact ⟨2, CV_C 400 (by kernel_rfl)⟩
  | 3, _ => exact ⟨2, CV_C 400 (by kernel_rfl)⟩
  | 4, _ => exact ⟨3, CV_C 400 (by kernel_rfl)⟩
  | 5, _ => exact ⟨3, CV_C 400 (by kernel_rfl)⟩
  | 6, _ => exact ⟨3, CV_C 400 (by kernel_rfl)⟩
  | 7, _ => exact ⟨3, CV_C 400 (by kernel_rfl)⟩
  | 8, _ => exact ⟨4, CV_C 400 (by kernel_rfl)⟩
  | 9, _ => exact ⟨4, CV_C 400 (by kernel_rfl)⟩
  | 10, _ => exact ⟨4, CV_C 400 (by kernel_rfl)⟩
  | 11, _ => exact ⟨4, CV_C 400 (by kernel_rfl)⟩
  | 12, _ => exact ⟨4, CV_C 400 (by kernel_rfl)⟩
  | n + 13, h => exact absurd h (by omega)
def sorted (ks : List Tm) : List Tm := isort ks 1 (ks.length - 1)
theorem e159 (x y z : D) (ks : List Tm) (hs : Tm.smalls ks) (h0 : 0 < ks.length) (hn : ks.length ≤ 12) : CV VPS 159 [.loc 1 0 ks.length 3, .fn 160 []] [[.d x, .d y, .d z], rC ks] = some ⟨.tup [], [[.d x, .d y, .d z], rC (sorted ks)], [], 0⟩ := by
  obtain ⟨lim, h188⟩ := e188 hn
  have h188 := upS h188
  have h187 := e187 (lim := lim) hn (e202 x y z ks hs h0 (by omega))
  have hu : IntKind.u64.wrap ((ks.length : Nat) : Int) = ((ks.length : Nat) : Int) := by rw [IntKind.wrap_u64]; omega
  have h1 := rC_ltb 2 (sorted ks)
  have h2 := rC_er ks
  unfold sorted at h1 ⊢
  generalize isort ks 1 (ks.length - 1) = Z at *
  refine CV_run (vf := vf159) rfl rfl ?_
  rw [vf159_start]
  (repeat (first
    | refine RX_seq ?_
    | refine RX_block ?_
    | ((first | refine RX_reg ?_ | refine RX_cond' ?_ | refine RX_draw0 ?_ | refine RX_draw rfl ?_ | refine RX_skip ?_ | refine RX_gfrz ?_ | refine RX_exit ?_ | refine RX_ret ?_); try (simp only [go_sem, Nat.max_zero, List.isEmpty_cons, Int.reduceToNat, Nat.reducePow, Int.reduceEq, Int.reduceNe, Int.reduceLT, Int.reduceLE, Nat.reduceAdd, Nat.reduceLeDiff, ↓reduceIte, Nat.reduceLT, Nat.reduceMul, Nat.reduceSub, reduceCtorEq, frzLoc, rowCells, vAppM, beq_iff_eq, bne_iff_ne, bne_self_eq_false, beq_self_eq_true, beq_true, beq_false, I, B, w, vf159_res, vf159_keep, h188, h187, hu, h1, h2]))))
end Go.Proofs.Ytgiciiknagelhaa
set_option linter.unusedVariables false
set_option maxRecDepth 100000
set_option maxHeartbeats 4000000
namespace Go.Proofs.Ytgiciiknagelhaa
open Go.VM
theorem frzTm' (A : List Tm) : frzLoc (some (rC A)) 0 A.length 3 = .d (.sl (A.map Tm.row)) := by
  have := frzRows (rows := A.map Tm.row) (fun r hr => by obtain ⟨t, _, rfl⟩ := List.mem_map.1 hr; rw [Tm.row_eq]; rfl)
  rw [List.length_map] at this
  exact this
set_option maxHeartbeats 8000000 in
theorem e94 (ks : List Tm) (t : Tm) (hs : Tm.smalls ks) (ht : t.small) (h0 : 0 < ks.length) (hn : ks.length ≤ 12) : CV VPS 94 [.d (.sl (ks.map Tm.row)), t.ag] [] = some ⟨.d (B (canF (sorted ks) t)), [], [], 0⟩ := by
  have hl : (sorted ks).length = ks.length := isort_len _ _ _
  have h98 : CV VPS 98 [.d (.sl (ks.map Tm.row))] [] = some ⟨.loc 0 0 ks.length 3, [rC ks], [], 0⟩ := by
    match ks, h0, hn with
    | a :: A, _, hn =>
      have h3 := Tm.rows3 (a :: A) (by omega)
      rw [List.map_cons] at h3 ⊢
      have := upS (e98 h3 (by rw [List.length_map]; simp only [List.length_cons] at hn; omega))
      rw [List.length_map] at this
      rw [List.length_cons]
      exact this
  have h159 := e159 (I t.op) (I t.val) (.sl (t.args.map Tm.row)) ks hs h0 hn
  have h95 := upS (e95 (sorted ks) (isort_smalls _ _ _ hs) (by omega) t ht)
  have hf := frzTm' (sorted ks)
  rw [hl] at hf
  have i1 : V.impL 0 1 (rC ks) = rC ks := impL_d _ _ _
  have hr := rC_er ks
  have hlt := rC_ltb 2 ks
  have hne : (rC ks).isEmpty = false := by
    match ks, h0 with
    | a :: A, _ => rw [rC_cons]; rfl
  have hrZ := rC_er (sorted ks)
  have hlt2 := rC_ltb 2 (sorted ks)
  generalize sorted ks = Z at *
  generalize canF Z t = q at *
  obtain ⟨o, v, ts⟩ := t
  simp only [Tm.ag, Tm.op_mk, Tm.val_mk, Tm.args_mk] at *
  refine CV_run (vf := vf94) rfl rfl ?_
  rw [vf94_start]
  (repeat (first
    | refine RX_seq ?_
    | refine RX_block ?_
    | ((first | refine RX_reg ?_ | refine RX_cond' ?_ | refine RX_draw0 ?_ | refine RX_draw rfl ?_ | refine RX_skip ?_ | refine RX_gfrz ?_ | refine RX_exit ?_ | refine RX_ret ?_); try (simp only [go_sem, Nat.max_zero, List.isEmpty_cons, Int.reduceToNat, Nat.reducePow, Int.reduceEq, Int.reduceNe, Int.reduceLT, Int.reduceLE, Nat.reduceAdd, Nat.reduceLeDiff, ↓reduceIte, Nat.reduceLT, Nat.reduceMul, Nat.reduceSub, reduceCtorEq, beq_iff_eq, bne_iff_ne, bne_self_eq_false, beq_self_eq_true, beq_true, beq_false, I, B, w, vf94_res, vf94_keep, h98, h159, h95, hf, i1, hr, hlt, hlt2, hne, hrZ]))))
end Go.Proofs.Ytgiciiknagelhaa
set_option linter.unusedVariables false
set_option maxRecDepth 100000
set_option maxHeartbeats 4000000
namespace Go.Proofs.Ytgiciiknagelhaa
open Go.VM
theorem e189n (t : Tm) (ht : t.small) : CV VP 189 [.sl 3 [] .full, t.ag, .fn 160 []] [] = some ⟨.tup [.d (I 0), .d (B (bsF [] t))], [], [], 0⟩ := by
  have hF : bsF [] t = false := rfl
  rw [hF]
  obtain ⟨a, b, ts⟩ := t
  simp only [Tm.ag, Tm.op_mk, Tm.val_mk, Tm.args_mk]
  refine CV_run (vf := vf189) rfl rfl ?_
  rw [vf189_start]
  (repeat (first
    | refine RX_seq ?_
    | refine RX_block ?_
    | ((first | refine RX_reg ?_ | refine RX_cond' ?_ | refine RX_draw0 ?_ | refine RX_draw rfl ?_ | refine RX_skip ?_ | refine RX_gfrz ?_ | refine RX_exit ?_ | refine RX_ret ?_); try (simp only [go_sem, Nat.max_zero, List.isEmpty_cons, Int.reduceToNat, Nat.reducePow, Int.reduceEq, Int.reduceNe, Int.reduceLT, Int.reduceLE, Nat.reduceAdd, Nat.reduceLeDiff, ↓reduceIte, Nat.reduceLT, Nat.reduceMul, Nat.reduceSub, reduceCtorEq, frzLoc, rowCells, vAppM, beq_iff_eq, bne_iff_ne, bne_self_eq_false, beq_self_eq_true, beq_true, beq_false, I, B, w, vf189_res, vf189_keep]))))
  refine RX_loopN (n := 1) rfl ?_
  refine RL_at (T := (.sl 3 [] .full :: .any :: .fn 160 [] :: .any :: .ptr 0 0 :: .any :: .any :: .any :: .d (I 0) :: .d (I 0) :: .d (I 0) :: .any :: .any :: .any :: .any :: .any :: .any :: .any :: .any :: .any :: .any :: .any :: .any :: .any :: .any :: .any :: .any :: .any :: .any :: .any :: .any :: .any :: .any :: .any :: .any :: .any :: .any :: .any :: .any :: .any :: .any :: .any :: .any :: .any :: .any :: .any :: .any :: .any :: .any :: [])) (bl := [[.d (I a), .d (I b), .d (.sl (ts.map Tm.row))]]) ⟨rfl, rfl, rfl, rfl, rfl, rfl⟩ rfl rfl (vf189L0_go ?_)
  (repeat (first
    | refine RX_seq ?_
    | refine RX_block ?_
    | ((first | refine RX_reg ?_ | refine RX_cond' ?_ | refine RX_draw0 ?_ | refine RX_draw rfl ?_ | refine RX_skip ?_ | refine RX_gfrz ?_ | refine RX_exit ?_ | refine RX_ret ?_); try (simp only [go_sem, Nat.max_zero, List.isEmpty_cons, Int.reduceToNat, Nat.reducePow, Int.reduceEq, Int.reduceNe, Int.reduceLT, Int.reduceLE, Nat.reduceAdd, Nat.reduceLeDiff, ↓reduceIte, Nat.reduceLT, Nat.reduceMul, Nat.reduceSub, reduceCtorEq, frzLoc, rowCells, vAppM, beq_iff_eq, bne_iff_ne, bne_self_eq_false, beq_self_eq_true, beq_true, beq_false, I, B, w, vf189_res, vf189_keep]))))
theorem e161n (t : Tm) (ht : t.small) : CV VP 161 [.sl 3 [] .full, t.ag] [] = some ⟨.d (B (bsF [] t)), [], [], 0⟩ := by
  have h := e189n t ht
  obtain ⟨a, b, ts⟩ := t
  simp only [Tm.ag, Tm.op_mk, Tm.val_mk, Tm.args_mk] at h ⊢
  refine CV_run (vf := vf161) rfl rfl ?_
  rw [vf161_start]
  (repeat (first
    | refine RX_seq ?_
    | refine RX_block ?_
    | ((first | refine RX_reg ?_ | refine RX_cond' ?_ | refine RX_draw0 ?_ | refine RX_draw rfl ?_ | refine RX_skip ?_ | refine RX_gfrz ?_ | refine RX_exit ?_ | refine RX_ret ?_); try (simp only [go_sem, Nat.max_zero, List.isEmpty_cons, Int.reduceToNat, Nat.reducePow, Int.reduceEq, Int.reduceNe, Int.reduceLT, Int.reduceLE, Nat.reduceAdd, Nat.reduceLeDiff, ↓reduceIte, Nat.reduceLT, Nat.reduceMul, Nat.reduceSub, reduceCtorEq, frzLoc, rowCells, vAppM, beq_iff_eq, bne_iff_ne, bne_self_eq_false, beq_self_eq_true, beq_true, beq_false, I, B, w, vf161_res, vf161_keep, h]))))
set_option maxHeartbeats 8000000 in
theorem e158n (x y z : D) (p : Tm → Bool) (ts : List Tm) (hn : ts.length < 1099511627776) (hp : ∀ u ∈ ts, CV VP 163 (u.ag :: [.ptr 0 0]) [[.sl 3 [] .full], [.d x, .d y, .d z]] = some ⟨.d (B (p u)), [[.sl 3 [] .full], [.d x, .d y, .d z]], [], 0⟩) :
    CV VP 158 [.d (.sl (ts.map Tm.row)), .fn 163 [.ptr 0 0]] [[.sl 3 [] .full], [.d x, .d y, .d z]] = some ⟨.d (I (fiI p 0 ts)), [[.sl 3 [] .full], [.d x, .d y, .d z]], [], 0⟩ := by
  refine CV_run (vf := vf158) rfl rfl ?_
  rw [vf158_start]
  (repeat (first
    | refine RX_seq ?_
    | refine RX_block ?_
    | ((first | refine RX_reg ?_ | refine RX_cond' ?_ | refine RX_draw0 ?_ | refine RX_draw rfl ?_ | refine RX_skip ?_ | refine RX_gfrz ?_ | refine RX_exit ?_ | refine RX_ret ?_); try (simp only [go_sem, Nat.max_zero, List.isEmpty_cons, Int.reduceToNat, Nat.reducePow, Int.reduceEq, Int.reduceNe, Int.reduceLT, Int.reduceLE, Nat.reduceAdd, Nat.reduceLeDiff, ↓reduceIte, Nat.reduceLT, Nat.reduceMul, Nat.reduceSub, reduceCtorEq, frzLoc, rowCells, vAppM, beq_iff_eq, bne_iff_ne, bne_self_eq_false, beq_self_eq_true, beq_true, beq_false, I, B, w, vf158_res, vf158_keep, List.length_map]))))
  refine RX_loopN (n := 2) rfl ?_
  refine RL_ind (fun m st => ∃ i : Nat, i + m = ts.length ∧ fiI p i (ts.drop i) = fiI p 0 ts ∧ At vf158K0 2 st ((.d (.sl (ts.map Tm.row)) :: .fn 163 [.ptr 0 0] :: .any :: .any :: .any :: .any :: .any :: .d (I (ts.length : Nat)) :: .d (I (i : Nat)) :: .any :: .any :: .any :: .any :: .any :: .any :: .any :: .any :: .any :: .any :: [])) [[.sl 3 [] .full], [.d x, .d y, .d z]] [] 0 2) ?_ ts.length _ ⟨0, Nat.zero_add _, rfl, ⟨rfl, rfl, rfl, rfl, rfl, rfl⟩⟩
  rintro m st ⟨i, hi, hc, hat⟩ ih
  refine RL_at hat rfl rfl (vf158L0_go ?_)
  clear hat
  cases m with
  | zero =>
    have h1 : ¬ i < ts.length := by omega
    rw [List.drop_eq_nil_of_le (by omega), fiI] at hc
    rw [← hc]
    (repeat (first
    | refine RX_seq ?_
    | refine RX_block ?_
    | ((first | refine RX_reg ?_ | refine RX_cond' ?_ | refine RX_draw0 ?_ | refine RX_draw rfl ?_ | refine RX_skip ?_ | refine RX_gfrz ?_ | refine RX_exit ?_ | refine RX_ret ?_); try (simp only [go_sem, Nat.max_zero, List.isEmpty_cons, Int.reduceToNat, Nat.reducePow, Int.reduceEq, Int.reduceNe, Int.reduceLT, Int.reduceLE, Nat.reduceAdd, Nat.reduceLeDiff, ↓reduceIte, Nat.reduceLT, Nat.reduceMul, Nat.reduceSub, reduceCtorEq, frzLoc, rowCells, vAppM, beq_iff_eq, bne_iff_ne, bne_self_eq_false, beq_self_eq_true, beq_true, beq_false, I, B, w, vf158_res, vf158_keep, h1]))))
  | succ m =>
    have h1 : i < ts.length := by omega
    obtain ⟨t, ht⟩ : ∃ t, ts[i]? = some t := ⟨_, List.getElem?_eq_getElem h1⟩
    have hrt : (ts.map Tm.row)[i]? = some t.row := by rw [List.getElem?_map, ht]; rfl
    have hpt := hp t (List.mem_of_getElem? ht)
    have hwi := w_nat (i := i) (by omega)
    rw [List.drop_eq_getElem_cons h1, fiI, show ts[i] = t from by rw [List.getElem?_eq_getElem h1] at ht; exact Option.some.inj ht] at hc
    simp only [Tm.row_eq] at hrt
    simp only [Tm.ag] at hpt
    by_cases h0 : p t = true
    · rw [if_pos h0] at hc
      rw [← hc]
      rw [h0] at hpt
      (repeat (first
    | refine RX_seq ?_
    | refine RX_block ?_
    | ((first | refine RX_reg ?_ | refine RX_cond' ?_ | refine RX_draw0 ?_ | refine RX_draw rfl ?_ | refine RX_skip ?_ | refine RX_gfrz ?_ | refine RX_exit ?_ | refine RX_ret ?_); try (simp only [go_sem, Nat.max_zero, List.isEmpty_cons, Int.reduceToNat, Nat.reducePow, Int.reduceEq, Int.reduceNe, Int.reduceLT, Int.reduceLE, Nat.reduceAdd, Nat.reduceLeDiff, ↓reduceIte, Nat.reduceLT, Nat.reduceMul, Nat.reduceSub, reduceCtorEq, frzLoc, rowCells, vAppM, beq_iff_eq, bne_iff_ne, bne_self_eq_false, beq_self_eq_true, beq_true, beq_false, I, B, w, vf158_res, vf158_keep, List.length_map, h1, hrt, hpt, hwi]))))
    · rw [if_neg h0] at hc
      rw [Bool.not_eq_true] at h0
      rw [h0] at hpt
      (repeat (first
    | refine RX_seq ?_
    | refine RX_block ?_
    | ((first | refine RX_reg ?_ | refine RX_cond' ?_ | refine RX_draw0 ?_ | refine RX_draw rfl ?_ | refine RX_skip ?_ | refine RX_gfrz ?_ | refine RX_exit ?_ | refine RX_ret ?_); try (simp only [go_sem, Nat.max_zero, List.isEmpty_cons, Int.reduceToNat, Nat.reducePow, Int.reduceEq, Int.reduceNe, Int.reduceLT, Int.reduceLE, Nat.reduceAdd, Nat.reduceLeDiff, ↓reduceIte, Nat.reduceLT, Nat.reduceMul, Nat.reduceSub, reduceCtorEq, frzLoc, rowCells, vAppM, beq_iff_eq, bne_iff_ne, bne_self_eq_false, beq_self_eq_true, beq_true, beq_false, I, B, w, vf158_res, vf158_keep, List.length_map, h1, hrt, hpt, hwi]))))
      exact ih m _ (Nat.lt_succ_self m) ⟨i + 1, by omega, hc, rfl, rfl, rfl, rfl, rfl, rfl⟩
theorem e92n (x y z : D) (p : Tm → Bool) (ts : List Tm) (hn : ts.length < 1099511627776) (hp : ∀ u ∈ ts, CV VP 163 (u.ag :: [.ptr 0 0]) [[.sl 3 [] .full], [.d x, .d y, .d z]] = some ⟨.d (B (p u)), [[.sl 3 [] .full], [.d x, .d y, .d z]], [], 0⟩) :
    CV VP 92 [.d (.sl (ts.map Tm.row)), .fn 163 [.ptr 0 0]] [[.sl 3 [] .full], [.d x, .d y, .d z]] = some ⟨.d (B (ts.any p)), [[.sl 3 [] .full], [.d x, .d y, .d z]], [], 0⟩ := by
  have h := e158n x y z p ts hn hp
  rw [← fiI_any p 0 ts]
  refine CV_run (vf := vf92) rfl rfl ?_
  rw [vf92_start]
  (repeat (first
    | refine RX_seq ?_
    | refine RX_block ?_
    | ((first | refine RX_reg ?_ | refine RX_cond' ?_ | refine RX_draw0 ?_ | refine RX_draw rfl ?_ | refine RX_skip ?_ | refine RX_gfrz ?_ | refine RX_exit ?_ | refine RX_ret ?_); try (simp only [go_sem, Nat.max_zero, List.isEmpty_cons, Int.reduceToNat, Nat.reducePow, Int.reduceEq, Int.reduceNe, Int.reduceLT, Int.reduceLE, Nat.reduceAdd, Nat.reduceLeDiff, ↓reduceIte, Nat.reduceLT, Nat.reduceMul, Nat.reduceSub, reduceCtorEq, frzLoc, rowCells, vAppM, beq_iff_eq, bne_iff_ne, bne_self_eq_false, beq_self_eq_true, beq_true, beq_false, I, B, w, vf92_res, vf92_keep, h]))))
set_option maxHeartbeats 8000000 in
theorem e95sn (v : Int) : CV VP 95 [.sl 3 [] .full, .agg [.d (I 9), .d (I v), .d (.sl [])]] [] = some ⟨.d (B (secF [] v)), [], [], 0⟩ := by
  have h161 := e161n (.mk 9 v []) ⟨by decide, trivial⟩
  simp only [Tm.ag, Tm.op_mk, Tm.val_mk, Tm.args_mk, List.map_nil] at h161
  unfold secF
  generalize bsF [] (.mk 9 v []) = b at h161 ⊢
  refine CV_run (vf := vf95) rfl rfl ?_
  rw [vf95_start]
  (repeat' (first
    | refine RX_seq ?_
    | refine RX_block ?_
    | ((first | refine RX_reg ?_ | refine RX_cond' ?_ | refine RX_draw0 ?_ | refine RX_draw rfl ?_ | refine RX_skip ?_ | refine RX_gfrz ?_ | refine RX_exit ?_ | refine RX_ret ?_); try (simp only [go_sem, Nat.max_zero, List.isEmpty_cons, Int.reduceToNat, Nat.reducePow, Int.reduceEq, Int.reduceNe, Int.reduceLT, Int.reduceLE, Nat.reduceAdd, Nat.reduceLeDiff, ↓reduceIte, Nat.reduceLT, Nat.reduceMul, Nat.reduceSub, reduceCtorEq, frzLoc, rowCells, vAppM, bne_self_eq_false, beq_self_eq_true, beq_true, beq_false, I, B, w, ibeq, ibne, bbeq, decide_eq_false_iff_not, decide_not, Bool.not_not, Decidable.not_not, Bool.not_eq_eq_eq_not, gt_iff_lt, ge_iff_le, and_false, false_and, or_self, and_self, vf95_res, vf95_keep, h161, *]))
    | (refine ite_ngo (fun _ => ?_) (fun _ => ?_) <;> try (simp only [go_sem, Nat.max_zero, List.isEmpty_cons, Int.reduceToNat, Nat.reducePow, Int.reduceEq, Int.reduceNe, Int.reduceLT, Int.reduceLE, Nat.reduceAdd, Nat.reduceLeDiff, ↓reduceIte, Nat.reduceLT, Nat.reduceMul, Nat.reduceSub, reduceCtorEq, frzLoc, rowCells, vAppM, bne_self_eq_false, beq_self_eq_true, beq_true, beq_false, I, B, w, ibeq, ibne, bbeq, decide_eq_false_iff_not, decide_not, Bool.not_not, Decidable.not_not, Bool.not_eq_eq_eq_not, gt_iff_lt, ge_iff_le, and_false, false_and, or_self, and_self, vf95_res, vf95_keep, h161, *]))
    | (refine ite_go (fun _ => ?_) (fun _ => ?_) <;> try (simp only [go_sem, Nat.max_zero, List.isEmpty_cons, Int.reduceToNat, Nat.reducePow, Int.reduceEq, Int.reduceNe, Int.reduceLT, Int.reduceLE, Nat.reduceAdd, Nat.reduceLeDiff, ↓reduceIte, Nat.reduceLT, Nat.reduceMul, Nat.reduceSub, reduceCtorEq, frzLoc, rowCells, vAppM, bne_self_eq_false, beq_self_eq_true, beq_true, beq_false, I, B, w, ibeq, ibne, bbeq, decide_eq_false_iff_not, decide_not, Bool.not_not, Decidable.not_not, Bool.not_eq_eq_eq_not, gt_iff_lt, ge_iff_le, and_false, false_and, or_self, and_self, vf95_res, vf95_keep, h161, *]))))
set_option maxHeartbeats 8000000 in
theorem e165n (a b : Tm) (ha : a.small) (hb : b.small) (h1 : CV VP 95 [.sl 3 [] .full, a.ag] [] = some ⟨.d (B (canF [] a)), [], [], 0⟩)
    (h2 : CV VP 95 [.sl 3 [] .full, b.ag] [] = some ⟨.d (B (canF [] b)), [], [], 0⟩) : CV VP 165 [.sl 3 [] .full, a.ag, b.ag] [] = some ⟨.d (B (canP [] [a, b])), [], [], 0⟩ := by
  have h3 := e161n (pubT a) ⟨by simp, ha, trivial⟩
  have h4 := e161n (pubT b) ⟨by simp, hb, trivial⟩
  have h5 := e38 a
  have h6 := e38 b
  rw [canP]
  generalize canF [] a = p at *
  generalize canF [] b = q at *
  generalize bsF [] (pubT a) = pa at *
  generalize bsF [] (pubT b) = pb at *
  obtain ⟨o, v, ts⟩ := a
  obtain ⟨x, y, us⟩ := b
  simp only [pubT, Tm.ag, Tm.op_mk, Tm.val_mk, Tm.args_mk, List.map_cons, List.map_nil, Tm.row_mk] at *
  refine CV_run (vf := vf165) rfl rfl ?_
  rw [vf165_start]
  cases p <;> cases q <;> cases pa <;> cases pb <;> ((repeat (first
    | refine RX_seq ?_
    | refine RX_block ?_
    | ((first | refine RX_reg ?_ | refine RX_cond' ?_ | refine RX_draw0 ?_ | refine RX_draw rfl ?_ | refine RX_skip ?_ | refine RX_gfrz ?_ | refine RX_exit ?_ | refine RX_ret ?_); try (simp only [go_sem, Nat.max_zero, List.isEmpty_cons, Int.reduceToNat, Nat.reducePow, Int.reduceEq, Int.reduceNe, Int.reduceLT, Int.reduceLE, Nat.reduceAdd, Nat.reduceLeDiff, ↓reduceIte, Nat.reduceLT, Nat.reduceMul, Nat.reduceSub, reduceCtorEq, frzLoc, rowCells, vAppM, beq_iff_eq, bne_iff_ne, bne_self_eq_false, beq_self_eq_true, beq_true, beq_false, I, B, w, vf165_res, vf165_keep, h1, h2, h3, h4, h5, h6])))))
set_option maxHeartbeats 8000000 in
theorem e163n (x y z : D) (u : Tm) (p : Bool) (h1 : CV VP 95 [.sl 3 [] .full, u.ag] [] = some ⟨.d (B p), [], [], 0⟩) : CV VP 163 [u.ag, .ptr 0 0] [[.sl 3 [] .full], [.d x, .d y, .d z]] = some ⟨.d (B (!p)), [[.sl 3 [] .full], [.d x, .d y, .d z]], [], 0⟩ := by
  obtain ⟨o, v, ts⟩ := u
  simp only [Tm.ag, Tm.op_mk, Tm.val_mk, Tm.args_mk] at *
  refine CV_run (vf := vf163) rfl rfl ?_
  rw [vf163_start]
  (repeat (first
    | refine RX_seq ?_
    | refine RX_block ?_
    | ((first | refine RX_reg ?_ | refine RX_cond' ?_ | refine RX_draw0 ?_ | refine RX_draw rfl ?_ | refine RX_skip ?_ | refine RX_gfrz ?_ | refine RX_exit ?_ | refine RX_ret ?_); try (simp only [go_sem, Nat.max_zero, List.isEmpty_cons, Int.reduceToNat, Nat.reducePow, Int.reduceEq, Int.reduceNe, Int.reduceLT, Int.reduceLE, Nat.reduceAdd, Nat.reduceLeDiff, ↓reduceIte, Nat.reduceLT, Nat.reduceMul, Nat.reduceSub, reduceCtorEq, frzLoc, rowCells, vAppM, beq_iff_eq, bne_iff_ne, bne_self_eq_false, beq_self_eq_true, beq_true, beq_false, I, B, w, vf163_res, vf163_keep, h1]))))
set_option maxHeartbeats 8000000 in
theorem e162n (o v : Int) (ts : List Tm) (hn : ts.length < 1099511627776) (h1 : ∀ u ∈ ts, CV VP 95 [.sl 3 [] .full, u.ag] [] = some ⟨.d (B (canF [] u)), [], [], 0⟩) :
    CV VP 162 [.ptr 1 0, .ptr 0 0] [[.sl 3 [] .full], [.d (I o), .d (I v), .d (.sl (ts.map Tm.row))]] = some ⟨.d (B (canA [] ts)), [[.sl 3 [] .full], [.d (I o), .d (I v), .d (.sl (ts.map Tm.row))]], [], 0⟩ := by
  have h2 := e92n (I o) (I v) (.sl (ts.map Tm.row)) (fun u => !canF [] u) ts hn (fun u hu => e163n _ _ _ u _ (h1 u hu))
  rw [← canA_any]
  generalize (ts.any fun u => !canF [] u) = q at *
  refine CV_run (vf := vf162) rfl rfl ?_
  rw [vf162_start]
  (repeat (first
    | refine RX_seq ?_
    | refine RX_block ?_
    | ((first | refine RX_reg ?_ | refine RX_cond' ?_ | refine RX_draw0 ?_ | refine RX_draw rfl ?_ | refine RX_skip ?_ | refine RX_gfrz ?_ | refine RX_exit ?_ | refine RX_ret ?_); try (simp only [go_sem, Nat.max_zero, List.isEmpty_cons, Int.reduceToNat, Nat.reducePow, Int.reduceEq, Int.reduceNe, Int.reduceLT, Int.reduceLE, Nat.reduceAdd, Nat.reduceLeDiff, ↓reduceIte, Nat.reduceLT, Nat.reduceMul, Nat.reduceSub, reduceCtorEq, frzLoc, rowCells, vAppM, beq_iff_eq, bne_iff_ne, bne_self_eq_false, beq_self_eq_true, beq_true, beq_false, I, B, w, vf162_res, vf162_keep, h2]))))
set_option maxHeartbeats 16000000 in
theorem e95n' : ∀ (n : Nat) (t : Tm), SizeOf.sizeOf t < n → t.small → CV VP 95 [.sl 3 [] .full, t.ag] [] = some ⟨.d (B (canF [] t)), [], [], 0⟩
  | 0, t, h, _ => absurd h (Nat.not_lt_zero _)
  | n + 1, .mk o v ts, hlt, hs => by
    have ih : ∀ u ∈ ts, CV VP 95 [.sl 3 [] .full, u.ag] [] = some ⟨.d (B (canF [] u)), [], [], 0⟩ := fun u hu => e95n' n u (by
      have := List.sizeOf_lt_of_mem hu
      simp only [Tm.mk.sizeOf_spec] at hlt
      omega) (Tm.smalls_mem hs.2 hu)
    have h161 := e161n (.mk o v ts) hs
    have h162 := fun o : Int => e162n o v ts hs.1 ih
    have h164 : CV VP 164 [.agg [.d (I 2), .d (I v), .d (.sl (ts.map Tm.row))]] [] = some ⟨.d (I (w (v.tdiv 1048576))), [], [], 0⟩ := e164 2 v (.sl (ts.map Tm.row))
    have hsec := e95sn v
    have h165 : (∃ a b, ts = [a, b] ∧ CV VP 165 [.sl 3 [] .full, a.ag, b.ag] [] = some ⟨.d (B (canP [] ts)), [], [], 0⟩) ∨ ts.length ≠ 2 := by
      match ts, ih, hs with
      | [a, b], ih, hs => exact .inl ⟨a, b, rfl, e165n a b hs.2.1 hs.2.2.1 (ih a (by simp)) (ih b (by simp))⟩
      | [], _, _ => exact .inr (by simp)
      | [_], _, _ => exact .inr (by simp)
      | _ :: _ :: _ :: _, _, _ => exact .inr (by simp)
    have hmax : max 2 1 = 2 := rfl
    rw [canF]
    rcases h165 with ⟨a, b, rfl, h165⟩ | hl
    · generalize bsF [] (.mk o v [a, b]) = q at *
      generalize canA [] [a, b] = ea at *
      generalize canP [] [a, b] = ep at *
      generalize secF [] v = es at *
      clear ih hs hlt
      obtain ⟨oa, va, ta⟩ := a
      obtain ⟨ob, vb, tb⟩ := b
      simp only [Tm.ag, Tm.op_mk, Tm.val_mk, Tm.args_mk, List.map_cons, List.map_nil, Tm.row_mk] at *
      refine CV_run (vf := vf95) rfl rfl ?_
      rw [vf95_start]
      (repeat' (first
    | refine RX_seq ?_
    | refine RX_block ?_
    | ((first | refine RX_reg ?_ | refine RX_cond' ?_ | refine RX_draw0 ?_ | refine RX_draw rfl ?_ | refine RX_skip ?_ | refine RX_gfrz ?_ | refine RX_exit ?_ | refine RX_ret ?_); try (simp only [go_sem, Nat.max_zero, List.isEmpty_cons, Int.reduceToNat, Nat.reducePow, Int.reduceEq, Int.reduceNe, Int.reduceLT, Int.reduceLE, Nat.reduceAdd, Nat.reduceLeDiff, ↓reduceIte, Nat.reduceLT, Nat.reduceMul, Nat.reduceSub, reduceCtorEq, frzLoc, rowCells, vAppM, bne_self_eq_false, beq_self_eq_true, beq_true, beq_false, I, B, w, ibeq, ibne, bbeq, decide_eq_false_iff_not, decide_not, Bool.not_not, Decidable.not_not, Bool.not_eq_eq_eq_not, gt_iff_lt, ge_iff_le, and_false, false_and, or_self, and_self, vf95_res, vf95_keep, h161, h162, hmax, h164, hsec, h165, *]))
    | (refine ite_ngo (fun _ => ?_) (fun _ => ?_) <;> try (simp only [go_sem, Nat.max_zero, List.isEmpty_cons, Int.reduceToNat, Nat.reducePow, Int.reduceEq, Int.reduceNe, Int.reduceLT, Int.reduceLE, Nat.reduceAdd, Nat.reduceLeDiff, ↓reduceIte, Nat.reduceLT, Nat.reduceMul, Nat.reduceSub, reduceCtorEq, frzLoc, rowCells, vAppM, bne_self_eq_false, beq_self_eq_true, beq_true, beq_false, I, B, w, ibeq, ibne, bbeq, decide_eq_false_iff_not, decide_not, Bool.not_not, Decidable.not_not, Bool.not_eq_eq_eq_not, gt_iff_lt, ge_iff_le, and_false, false_and, or_self, and_self, vf95_res, vf95_keep, h161, h162, hmax, h164, hsec, h165, *]))
    | (refine ite_go (fun _ => ?_) (fun _ => ?_) <;> try (simp only [go_sem, Nat.max_zero, List.isEmpty_cons, Int.reduceToNat, Nat.reducePow, Int.reduceEq, Int.reduceNe, Int.reduceLT, Int.reduceLE, Nat.reduceAdd, Nat.reduceLeDiff, ↓reduceIte, Nat.reduceLT, Nat.reduceMul, Nat.reduceSub, reduceCtorEq, frzLoc, rowCells, vAppM, bne_self_eq_false, beq_self_eq_true, beq_true, beq_false, I, B, w, ibeq, ibne, bbeq, decide_eq_false_iff_not, decide_not, Bool.not_not, Decidable.not_not, Bool.not_eq_eq_eq_not, gt_iff_lt, ge_iff_le, and_false, false_and, or_self, and_self, vf95_res, vf95_keep, h161, h162, hmax, h164, hsec, h165, *]))))
      all_goals rfl
    · have hl2 : ¬ ((ts.length : Int) = 2) := by omega
      rw [canP_no hl]
      generalize bsF [] (.mk o v ts) = q at *
      generalize canA [] ts = ea at *
      generalize secF [] v = es at *
      clear ih hs hlt
      simp only [Tm.ag, Tm.op_mk, Tm.val_mk, Tm.args_mk] at *
      refine CV_run (vf := vf95) rfl rfl ?_
      rw [vf95_start]
      (repeat' (first
    | refine RX_seq ?_
    | refine RX_block ?_
    | ((first | refine RX_reg ?_ | refine RX_cond' ?_ | refine RX_draw0 ?_ | refine RX_draw rfl ?_ | refine RX_skip ?_ | refine RX_gfrz ?_ | refine RX_exit ?_ | refine RX_ret ?_); try (simp only [go_sem, Nat.max_zero, List.isEmpty_cons, Int.reduceToNat, Nat.reducePow, Int.reduceEq, Int.reduceNe, Int.reduceLT, Int.reduceLE, Nat.reduceAdd, Nat.reduceLeDiff, ↓reduceIte, Nat.reduceLT, Nat.reduceMul, Nat.reduceSub, reduceCtorEq, frzLoc, rowCells, vAppM, bne_self_eq_false, beq_self_eq_true, beq_true, beq_false, I, B, w, ibeq, ibne, bbeq, decide_eq_false_iff_not, decide_not, Bool.not_not, Decidable.not_not, Bool.not_eq_eq_eq_not, gt_iff_lt, ge_iff_le, and_false, false_and, or_self, and_self, vf95_res, vf95_keep, h161, h162, hmax, h164, hsec, List.length_map, hl2, *]))
    | (refine ite_ngo (fun _ => ?_) (fun _ => ?_) <;> try (simp only [go_sem, Nat.max_zero, List.isEmpty_cons, Int.reduceToNat, Nat.reducePow, Int.reduceEq, Int.reduceNe, Int.reduceLT, Int.reduceLE, Nat.reduceAdd, Nat.reduceLeDiff, ↓reduceIte, Nat.reduceLT, Nat.reduceMul, Nat.reduceSub, reduceCtorEq, frzLoc, rowCells, vAppM, bne_self_eq_false, beq_self_eq_true, beq_true, beq_false, I, B, w, ibeq, ibne, bbeq, decide_eq_false_iff_not, decide_not, Bool.not_not, Decidable.not_not, Bool.not_eq_eq_eq_not, gt_iff_lt, ge_iff_le, and_false, false_and, or_self, and_self, vf95_res, vf95_keep, h161, h162, hmax, h164, hsec, List.length_map, hl2, *]))
    | (refine ite_go (fun _ => ?_) (fun _ => ?_) <;> try (simp only [go_sem, Nat.max_zero, List.isEmpty_cons, Int.reduceToNat, Nat.reducePow, Int.reduceEq, Int.reduceNe, Int.reduceLT, Int.reduceLE, Nat.reduceAdd, Nat.reduceLeDiff, ↓reduceIte, Nat.reduceLT, Nat.reduceMul, Nat.reduceSub, reduceCtorEq, frzLoc, rowCells, vAppM, bne_self_eq_false, beq_self_eq_true, beq_true, beq_false, I, B, w, ibeq, ibne, bbeq, decide_eq_false_iff_not, decide_not, Bool.not_not, Decidable.not_not, Bool.not_eq_eq_eq_not, gt_iff_lt, ge_iff_le, and_false, false_and, or_self, and_self, vf95_res, vf95_keep, h161, h162, hmax, h164, hsec, List.length_map, hl2, *]))))
      all_goals rfl
theorem e95n (t : Tm) (ht : t.small) : CV VP 95 [.sl 3 [] .full, t.ag] [] = some ⟨.d (B (canF [] t)), [], [], 0⟩ := e95n' _ t (Nat.lt_succ_self _) ht
end Go.Proofs.Ytgiciiknagelhaa
set_option linter.unusedVariables false
set_option maxRecDepth 100000
set_option maxHeartbeats 4000000
namespace Go.Proofs.Ytgiciiknagelhaa
open Go.VM
theorem e202n : CV VP 202 [.sl 3 [] .full, .d (I 0), .d (I 0), .fn 160 []] [] = some ⟨.tup [], [], [], 0⟩ := by
  refine CV_run (vf := vf202) rfl rfl ?_
  rw [vf202_start]
  have hw : IntKind.i64.wrap (0 + 1) = 1 := rfl
  (repeat (first
    | refine RX_seq ?_
    | refine RX_block ?_
    | ((first | refine RX_reg ?_ | refine RX_cond' ?_ | refine RX_draw0 ?_ | refine RX_draw rfl ?_ | refine RX_skip ?_ | refine RX_gfrz ?_ | refine RX_exit ?_ | refine RX_ret ?_); try (simp only [go_sem, Nat.max_zero, List.isEmpty_cons, Int.reduceToNat, Nat.reducePow, Int.reduceEq, Int.reduceNe, Int.reduceLT, Int.reduceLE, Nat.reduceAdd, Nat.reduceLeDiff, ↓reduceIte, Nat.reduceLT, Nat.reduceMul, Nat.reduceSub, reduceCtorEq, frzLoc, rowCells, vAppM, beq_iff_eq, bne_iff_ne, bne_self_eq_false, beq_self_eq_true, beq_true, beq_false, I, B, w, vf202_res, vf202_keep, hw]))))
  refine RX_loopN (n := 0) rfl ?_
  refine RL_at (T := (.sl 3 [] .full :: .d (I 0) :: .d (I 0) :: .fn 160 [] :: .any :: .any :: .any :: .any :: .d (I 1) :: .any :: .any :: .any :: .any :: .any :: .any :: .any :: .any :: .any :: .any :: .any :: .any :: .any :: .any :: .any :: .any :: .any :: .any :: .any :: .any :: .any :: .any :: .any :: .any :: .any :: .any :: .any :: .any :: .any :: .any :: .any :: .any :: .any :: .any :: .any :: .any :: .any :: .any :: .any :: .any :: .any :: .any :: .any :: .any :: [])) (bl := []) ⟨rfl, rfl, rfl, rfl, rfl, rfl⟩ rfl rfl (vf202L0_go ?_)
  (repeat (first
    | refine RX_seq ?_
    | refine RX_block ?_
    | ((first | refine RX_reg ?_ | refine RX_cond' ?_ | refine RX_draw0 ?_ | refine RX_draw rfl ?_ | refine RX_skip ?_ | refine RX_gfrz ?_ | refine RX_exit ?_ | refine RX_ret ?_); try (simp only [go_sem, Nat.max_zero, List.isEmpty_cons, Int.reduceToNat, Nat.reducePow, Int.reduceEq, Int.reduceNe, Int.reduceLT, Int.reduceLE, Nat.reduceAdd, Nat.reduceLeDiff, ↓reduceIte, Nat.reduceLT, Nat.reduceMul, Nat.reduceSub, reduceCtorEq, frzLoc, rowCells, vAppM, beq_iff_eq, bne_iff_ne, bne_self_eq_false, beq_self_eq_true, beq_true, beq_false, I, B, w, vf202_res, vf202_keep]))))
theorem e159n : CV VPS 159 [.sl 3 [] .full, .fn 160 []] [] = some ⟨.tup [], [], [], 0⟩ := by
  obtain ⟨lim, h188⟩ := e188 (n := 0) (by decide)
  have h188 : CV VPS 188 [.d (.lit (.int .u64 0))] [] = some ⟨.d (I lim), [], [], 0⟩ := upS h188
  have h187 : CV VPS 187 [.sl 3 [] .full, .d (I 0), .d (I 0), .d (I lim), .fn 160 []] [] = some ⟨.tup [], [], [], 0⟩ := e187 (n := 0) (lim := lim) (by decide) e202n
  have hu : IntKind.u64.wrap 0 = 0 := rfl
  refine CV_run (vf := vf159) rfl rfl ?_
  rw [vf159_start]
  (repeat (first
    | refine RX_seq ?_
    | refine RX_block ?_
    | ((first | refine RX_reg ?_ | refine RX_cond' ?_ | refine RX_draw0 ?_ | refine RX_draw rfl ?_ | refine RX_skip ?_ | refine RX_gfrz ?_ | refine RX_exit ?_ | refine RX_ret ?_); try (simp only [go_sem, Nat.max_zero, List.isEmpty_cons, Int.reduceToNat, Nat.reducePow, Int.reduceEq, Int.reduceNe, Int.reduceLT, Int.reduceLE, Nat.reduceAdd, Nat.reduceLeDiff, ↓reduceIte, Nat.reduceLT, Nat.reduceMul, Nat.reduceSub, reduceCtorEq, frzLoc, rowCells, vAppM, beq_iff_eq, bne_iff_ne, bne_self_eq_false, beq_self_eq_true, beq_true, beq_false, I, B, w, vf159_res, vf159_keep, h188, h187, hu]))))
theorem e94n (t : Tm) (ht : t.small) : CV VPS 94 [.d (.sl []), t.ag] [] = some ⟨.d (B (canF [] t)), [], [], 0⟩ := by
  have h98 := upS vf98_cnil
  have h159 := e159n
  have h95 := upS (e95n t ht)
  generalize canF [] t = q at *
  obtain ⟨o, v, ts⟩ := t
  simp only [Tm.ag, Tm.op_mk, Tm.val_mk, Tm.args_mk] at *
  refine CV_run (vf := vf94) rfl rfl ?_
  rw [vf94_start]
  (repeat (first
    | refine RX_seq ?_
    | refine RX_block ?_
    | ((first | refine RX_reg ?_ | refine RX_cond' ?_ | refine RX_draw0 ?_ | refine RX_draw rfl ?_ | refine RX_skip ?_ | refine RX_gfrz ?_ | refine RX_exit ?_ | refine RX_ret ?_); try (simp only [go_sem, Nat.max_zero, List.isEmpty_cons, Int.reduceToNat, Nat.reducePow, Int.reduceEq, Int.reduceNe, Int.reduceLT, Int.reduceLE, Nat.reduceAdd, Nat.reduceLeDiff, ↓reduceIte, Nat.reduceLT, Nat.reduceMul, Nat.reduceSub, reduceCtorEq, frzLoc, rowCells, vAppM, beq_iff_eq, bne_iff_ne, bne_self_eq_false, beq_self_eq_true, beq_true, beq_false, I, B, w, vf94_res, vf94_keep, h98, h159, h95]))))
theorem e94a (ks : List Tm) (t : Tm) (hs : Tm.smalls ks) (ht : t.small) (hn : ks.length ≤ 12) : CV VPS 94 [.d (.sl (ks.map Tm.row)), t.ag] [] = some ⟨.d (B (canF (sorted ks) t)), [], [], 0⟩ := by
  match ks, hs, hn with
  | [], _, _ => exact e94n t ht
  | a :: A, hs, hn => exact e94 (a :: A) t hs ht (Nat.succ_pos _) hn
end Go.Proofs.Ytgiciiknagelhaa
set_option linter.unusedVariables false
set_option maxRecDepth 100000
set_option maxHeartbeats 4000000
namespace Go.Proofs.Ytgiciiknagelhaa
open Go.VM
def ordP : List Tm → Bool
  | [a, b] => !(decide (b.cmp a < 0))
  | _ => true
def sndF : Tm → Bool
  | .mk o v ts => if o = 1 then decide ((ts.length : Int) = 0) else if o = 2 then decide ((ts.length : Int) = 0) && decide (v ≥ 0) else if o = 9 then decide ((ts.length : Int) = 0) && decide (v ≥ 0) else
      if o = 10 then decide ((ts.length : Int) = 0) && decide (v ≥ 0) else if o = 3 then decide (v = 0) else if o = 6 then decide (v ≥ 0) else if o = 4 then decide ((ts.length : Int) = 1) && decide (v = 0) else
      if o = 8 then decide ((ts.length : Int) = 1) && decide (v ≥ 0) else if o = 5 then (decide ((ts.length : Int) = 2) && decide (v = 0)) && ordP ts else if o = 7 then decide ((ts.length : Int) = 2) && decide (v = 0) else false
set_option maxHeartbeats 16000000 in
theorem e157 (t : Tm) (hs : t.small) : CV VP 157 [t.ag] [] = some ⟨.d (B (sndF t)), [], [], 0⟩ := by
  obtain ⟨o, v, ts⟩ := t
  have h99 : (∃ a b, ts = [a, b] ∧ CV VP 99 [b.ag, a.ag] [] = some ⟨.d (B (decide (b.cmp a < 0))), [], [], 0⟩) ∨ ¬ ((ts.length : Int) = 2) := by
    match ts, hs with
    | [a, b], hs => exact .inl ⟨a, b, rfl, e99L b a hs.2.2.1⟩
    | [], _ => exact .inr (by simp)
    | [_], _ => exact .inr (by simp)
    | _ :: _ :: _ :: _, _ => exact .inr (by simp only [List.length_cons]; omega)
  rw [sndF]
  rcases h99 with ⟨a, b, rfl, h99⟩ | hl
  · rw [ordP]
    obtain ⟨oa, va, ta⟩ := a
    obtain ⟨ob, vb, tb⟩ := b
    generalize decide (Tm.cmp (.mk ob vb tb) (.mk oa va ta) < 0) = q at *
    simp only [Tm.ag, Tm.op_mk, Tm.val_mk, Tm.args_mk, List.map_cons, List.map_nil, Tm.row_mk] at *
    refine CV_run (vf := vf157) rfl rfl ?_
    rw [vf157_start]
    (repeat' (first
    | refine RX_seq ?_
    | refine RX_block ?_
    | ((first | refine RX_reg ?_ | refine RX_cond' ?_ | refine RX_draw0 ?_ | refine RX_draw rfl ?_ | refine RX_skip ?_ | refine RX_gfrz ?_ | refine RX_exit ?_ | refine RX_ret ?_); try (simp only [go_sem, Nat.max_zero, List.isEmpty_cons, Int.reduceToNat, Nat.reducePow, Int.reduceEq, Int.reduceNe, Int.reduceLT, Int.reduceLE, Nat.reduceAdd, Nat.reduceLeDiff, ↓reduceIte, Nat.reduceLT, Nat.reduceMul, Nat.reduceSub, reduceCtorEq, frzLoc, rowCells, vAppM, bne_self_eq_false, beq_self_eq_true, beq_true, beq_false, I, B, w, ibeq, ibne, bbeq, decide_eq_false_iff_not, decide_not, Bool.not_not, Decidable.not_not, Bool.not_eq_eq_eq_not, gt_iff_lt, ge_iff_le, and_false, false_and, or_self, and_self, vf157_res, vf157_keep, h99, *]))
    | (refine ite_ngo (fun _ => ?_) (fun _ => ?_) <;> try (simp only [go_sem, Nat.max_zero, List.isEmpty_cons, Int.reduceToNat, Nat.reducePow, Int.reduceEq, Int.reduceNe, Int.reduceLT, Int.reduceLE, Nat.reduceAdd, Nat.reduceLeDiff, ↓reduceIte, Nat.reduceLT, Nat.reduceMul, Nat.reduceSub, reduceCtorEq, frzLoc, rowCells, vAppM, bne_self_eq_false, beq_self_eq_true, beq_true, beq_false, I, B, w, ibeq, ibne, bbeq, decide_eq_false_iff_not, decide_not, Bool.not_not, Decidable.not_not, Bool.not_eq_eq_eq_not, gt_iff_lt, ge_iff_le, and_false, false_and, or_self, and_self, vf157_res, vf157_keep, h99, *]))
    | (refine ite_go (fun _ => ?_) (fun _ => ?_) <;> try (simp only [go_sem, Nat.max_zero, List.isEmpty_cons, Int.reduceToNat, Nat.reducePow, Int.reduceEq, Int.reduceNe, Int.reduceLT, Int.reduceLE, Nat.reduceAdd, Nat.reduceLeDiff, ↓reduceIte, Nat.reduceLT, Nat.reduceMul, Nat.reduceSub, reduceCtorEq, frzLoc, rowCells, vAppM, bne_self_eq_false, beq_self_eq_true, beq_true, beq_false, I, B, w, ibeq, ibne, bbeq, decide_eq_false_iff_not, decide_not, Bool.not_not, Decidable.not_not, Bool.not_eq_eq_eq_not, gt_iff_lt, ge_iff_le, and_false, false_and, or_self, and_self, vf157_res, vf157_keep, h99, *]))))
    all_goals rfl
  · generalize ordP ts = q at *
    simp only [Tm.ag, Tm.op_mk, Tm.val_mk, Tm.args_mk] at *
    refine CV_run (vf := vf157) rfl rfl ?_
    rw [vf157_start]
    (repeat' (first
    | refine RX_seq ?_
    | refine RX_block ?_
    | ((first | refine RX_reg ?_ | refine RX_cond' ?_ | refine RX_draw0 ?_ | refine RX_draw rfl ?_ | refine RX_skip ?_ | refine RX_gfrz ?_ | refine RX_exit ?_ | refine RX_ret ?_); try (simp only [go_sem, Nat.max_zero, List.isEmpty_cons, Int.reduceToNat, Nat.reducePow, Int.reduceEq, Int.reduceNe, Int.reduceLT, Int.reduceLE, Nat.reduceAdd, Nat.reduceLeDiff, ↓reduceIte, Nat.reduceLT, Nat.reduceMul, Nat.reduceSub, reduceCtorEq, frzLoc, rowCells, vAppM, bne_self_eq_false, beq_self_eq_true, beq_true, beq_false, I, B, w, ibeq, ibne, bbeq, decide_eq_false_iff_not, decide_not, Bool.not_not, Decidable.not_not, Bool.not_eq_eq_eq_not, gt_iff_lt, ge_iff_le, and_false, false_and, or_self, and_self, vf157_res, vf157_keep, List.length_map, hl, *]))
    | (refine ite_ngo (fun _ => ?_) (fun _ => ?_) <;> try (simp only [go_sem, Nat.max_zero, List.isEmpty_cons, Int.reduceToNat, Nat.reducePow, Int.reduceEq, Int.reduceNe, Int.reduceLT, Int.reduceLE, Nat.reduceAdd, Nat.reduceLeDiff, ↓reduceIte, Nat.reduceLT, Nat.reduceMul, Nat.reduceSub, reduceCtorEq, frzLoc, rowCells, vAppM, bne_self_eq_false, beq_self_eq_true, beq_true, beq_false, I, B, w, ibeq, ibne, bbeq, decide_eq_false_iff_not, decide_not, Bool.not_not, Decidable.not_not, Bool.not_eq_eq_eq_not, gt_iff_lt, ge_iff_le, and_false, false_and, or_self, and_self, vf157_res, vf157_keep, List.length_map, hl, *]))
    | (refine ite_go (fun _ => ?_) (fun _ => ?_) <;> try (simp only [go_sem, Nat.max_zero, List.isEmpty_cons, Int.reduceToNat, Nat.reducePow, Int.reduceEq, Int.reduceNe, Int.reduceLT, Int.reduceLE, Nat.reduceAdd, Nat.reduceLeDiff, ↓reduceIte, Nat.reduceLT, Nat.reduceMul, Nat.reduceSub, reduceCtorEq, frzLoc, rowCells, vAppM, bne_self_eq_false, beq_self_eq_true, beq_true, beq_false, I, B, w, ibeq, ibne, bbeq, decide_eq_false_iff_not, decide_not, Bool.not_not, Decidable.not_not, Bool.not_eq_eq_eq_not, gt_iff_lt, ge_iff_le, and_false, false_and, or_self, and_self, vf157_res, vf157_keep, List.length_map, hl, *]))))
    all_goals rfl
end Go.Proofs.Ytgiciiknagelhaa
set_option linter.unusedVariables false
set_option maxRecDepth 100000
set_option maxHeartbeats 4000000
namespace Go.Proofs.Ytgiciiknagelhaa
open Go.VM
end Go.Proofs.Ytgiciiknagelhaa
set_option linter.unusedVariables false
set_option maxRecDepth 100000
set_option maxHeartbeats 4000000
namespace Go.Proofs.Ytgiciiknagelhaa
open Go.VM
theorem e156 (x y z : D) : CV VP 156 [.agg [.d x, .d y, .d z]] [] = some ⟨.fn 185 [.ptr 0 0], [[.d x, .d y, .d z]], [], 0⟩ := by
  refine CV_run (vf := vf156) rfl rfl ?_
  rw [vf156_start]
  (repeat (first
    | refine RX_seq ?_
    | refine RX_block ?_
    | ((first | refine RX_reg ?_ | refine RX_cond' ?_ | refine RX_draw0 ?_ | refine RX_draw rfl ?_ | refine RX_skip ?_ | refine RX_gfrz ?_ | refine RX_exit ?_ | refine RX_ret ?_); try (simp only [go_sem, Nat.max_zero, List.isEmpty_cons, Int.reduceToNat, Nat.reducePow, Int.reduceEq, Int.reduceNe, Int.reduceLT, Int.reduceLE, Nat.reduceAdd, Nat.reduceLeDiff, ↓reduceIte, Nat.reduceLT, Nat.reduceMul, Nat.reduceSub, reduceCtorEq, frzLoc, rowCells, vAppM, beq_iff_eq, bne_iff_ne, bne_self_eq_false, beq_self_eq_true, beq_true, beq_false, I, B, w, vf156_res, vf156_keep]))))
end Go.Proofs.Ytgiciiknagelhaa
