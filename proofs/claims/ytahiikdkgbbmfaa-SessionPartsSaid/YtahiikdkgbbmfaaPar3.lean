/- Parts and boxes on the machine, third part: reading boxes, and the law SessionParts: it answers true. Conditions: none. -/
import Derived.Test.YtahiikdkgbbmfaaVc
import Derived.Test.YtahiikdkgbbmfaaPar2
set_option linter.unusedSimpArgs false
namespace Go.Proofs.Ytahiikdkgbbmfaa
open Go.VM
def rbB (t : Tm) : Prop := 0 ≤ t.val ∧ t.val ≤ 255
instance (t : Tm) : Decidable (rbB t) := by unfold rbB; infer_instance
/-- a list of terms that may be a box and a template -/
def rbOk (l : List Tm) : Prop := 18 ≤ l.length ∧ l.length ≤ 34 ∧ (∀ t ∈ l, t.op = 1) ∧ (∀ t ∈ l.drop 18, rbB t)
instance (l : List Tm) : Decidable (rbOk l) := by unfold rbOk; infer_instance
def rbN (l : List Tm) (i : Nat) : Int := (l.getD i Tm.zero).val
abbrev uw (n : Int) : Int := IntKind.u64.wrap n
def rbC (l : List Tm) : Int := chk (rbN l 0) (uw (rbN l 1)) (uw (rbN l 2)) (rbN l 3) (uw (rbN l 4)) (uw (rbN l 5)) (rbN l 6) (uw (rbN l 7)) (uw (rbN l 8)) (rbN l 9) (uw (rbN l 10)) (uw (rbN l 11)) (rbN l 12) (rbN l 13) (rbN l 14) (rbN l 15) (rbN l 16) (rbN l 17)
def rbS (l : List Tm) : ByteArray := ⟨((l.drop 18).map fun t => UInt8.ofNat t.val.toNat).toArray⟩
def rb0 : V := .tup [.agg [.d (I 0), .d (U 0), .d (U 0), .d (I 0), .d (U 0), .d (U 0), .d (I 0), .d (U 0), .d (U 0), .d (I 0), .d (U 0), .d (U 0), .d (I 0), .d (I 0), .d (I 0), .d (I 0), .d (I 0), .d (I 0)], .d (.lit (.string ⟨#[]⟩)), .d (B false)]
/-- what a list of terms is as a box and a template -/
def rbV (l : List Tm) : V := if rbOk l ∧ rbC l = 0 then
  .tup [.agg [.d (I (rbN l 0)), .d (U (uw (rbN l 1))), .d (U (uw (rbN l 2))), .d (I (rbN l 3)), .d (U (uw (rbN l 4))), .d (U (uw (rbN l 5))), .d (I (rbN l 6)), .d (U (uw (rbN l 7))), .d (U (uw (rbN l 8))), .d (I (rbN l 9)), .d (U (uw (rbN l 10))), .d (U (uw (rbN l 11))), .d (I (rbN l 12)), .d (I (rbN l 13)), .d (I (rbN l 14)), .d (I (rbN l 15)), .d (I (rbN l 16)), .d (I (rbN l 17))], .d (.lit (.string (rbS l))), .d (B true)] else rb0
theorem rbV_bad {l : List Tm} (h : ¬ rbOk l) : rbV l = rb0 := if_neg fun k => h k.1
def byR (ts : List Tm) : List (List D) := ts.map fun t => [.lit (.int .u8 t.val)]
theorem byR_bytes : ∀ {ts : List Tm}, bytesOf (byR ts) = some (ts.map fun t => UInt8.ofNat t.val.toNat)
  | [] => rfl
  | t :: ts => by
    have ih := byR_bytes (ts := ts)
    simp only [byR, List.map_cons] at ih ⊢
    simp only [bytesOf]
    rw [ih]
theorem e89 (l : List Tm) (i : Nat) (hl : l.length < 1000000) {a b c : Tm} (h0 : l[i]? = some a) (h1 : l[i + 1]? = some b) (h2 : l[i + 2]? = some c) :
    CV VP 89 [.d (.sl (l.map Tm.row)), .d (I (i : Nat))] [] = some ⟨.agg [.d (I a.val), .d (U (uw b.val)), .d (U (uw c.val))], [], [], 0⟩ := by
  have l0 := (List.getElem?_eq_some_iff.1 h0).1
  have l1 := (List.getElem?_eq_some_iff.1 h1).1
  have l2 := (List.getElem?_eq_some_iff.1 h2).1
  have r0 : (l.map Tm.row)[i]? = some [I a.op, I a.val, .sl (a.args.map Tm.row)] := by rw [List.getElem?_map, h0]; simp [Tm.row_eq]
  have r1 : (l.map Tm.row)[i + 1]? = some [I b.op, I b.val, .sl (b.args.map Tm.row)] := by rw [List.getElem?_map, h1]; simp [Tm.row_eq]
  have r2 : (l.map Tm.row)[i + 2]? = some [I c.op, I c.val, .sl (c.args.map Tm.row)] := by rw [List.getElem?_map, h2]; simp [Tm.row_eq]
  have w1 : IntKind.i64.wrap ((i : Int) + 1) = ((i + 1 : Nat) : Int) := w_nat (by omega)
  have w2 : IntKind.i64.wrap ((i : Int) + 2) = ((i + 2 : Nat) : Int) := by rw [w_in (by omega) (by omega)]; omega
  refine CV_run (vf := vf89) rfl rfl ?_
  rw [vf89_start]
  (repeat (first
    | refine RX_seq ?_
    | refine RX_block ?_
    | ((first | refine RX_reg ?_ | refine RX_cond' ?_ | refine RX_draw0 ?_ | refine RX_draw rfl ?_ | refine RX_skip ?_ | refine RX_exit ?_ | refine RX_ret ?_); try (simp only [go_sem, Int.reduceToNat, Nat.reducePow, Int.reduceEq, Int.reduceNe, Int.reduceLT, Int.reduceLE, Nat.reduceAdd, Nat.reduceLeDiff, ↓reduceIte, Nat.reduceLT, Nat.reduceMul, Nat.reduceSub, reduceCtorEq, frzLoc, rowCells, vAppM, beq_iff_eq, bne_iff_ne, bne_self_eq_false, beq_self_eq_true, beq_true, beq_false, I, B, w, vf89_res, vf89_keep, List.length_map, l0, l1, l2, r0, r1, r2, w1, w2]))))
theorem take_drop_snoc {l : List Tm} {i : Nat} {t : Tm} (h : l[i]? = some t) (h18 : 18 ≤ i) : (l.take (i + 1)).drop 18 = (l.take i).drop 18 ++ [t] := by
  have hi := (List.getElem?_eq_some_iff.1 h).1
  rw [List.take_add_one, h, List.drop_append, List.length_take]
  have e : 18 - min i l.length = 0 := by omega
  rw [e]
  rfl
set_option maxHeartbeats 8000000 in
theorem e44 (l : List Tm) (hl : l.length < 1000000) : CV VP 44 [.d (.sl (l.map Tm.row))] [] = some ⟨rbV l, [], [], 0⟩ := by
  by_cases hlo : l.length < 18
  · rw [rbV_bad fun h => by have := h.1; omega]
    have h1 : (l.length : Int) < 18 := by omega
    simp only [rb0]
    refine CV_run (vf := vf44) rfl rfl ?_
    rw [vf44_start]
    (repeat (first
    | refine RX_seq ?_
    | refine RX_block ?_
    | ((first | refine RX_reg ?_ | refine RX_cond' ?_ | refine RX_draw0 ?_ | refine RX_draw rfl ?_ | refine RX_skip ?_ | refine RX_exit ?_ | refine RX_ret ?_); try (simp only [go_sem, Int.reduceToNat, Nat.reducePow, Int.reduceEq, Int.reduceNe, Int.reduceLT, Int.reduceLE, Nat.reduceAdd, Nat.reduceLeDiff, ↓reduceIte, Nat.reduceLT, Nat.reduceMul, Nat.reduceSub, reduceCtorEq, frzLoc, rowCells, vAppM, beq_iff_eq, bne_iff_ne, bne_self_eq_false, beq_self_eq_true, beq_true, beq_false, I, B, w, vf44_res, vf44_keep, List.length_map, h1]))))
  by_cases hhi : 34 < l.length
  · rw [rbV_bad fun h => by have := h.2.1; omega]
    have h1 : ¬ (l.length : Int) < 18 := by omega
    have h2 : (34 : Int) < (l.length : Int) := by omega
    simp only [rb0]
    refine CV_run (vf := vf44) rfl rfl ?_
    rw [vf44_start]
    (repeat (first
    | refine RX_seq ?_
    | refine RX_block ?_
    | ((first | refine RX_reg ?_ | refine RX_cond' ?_ | refine RX_draw0 ?_ | refine RX_draw rfl ?_ | refine RX_skip ?_ | refine RX_exit ?_ | refine RX_ret ?_); try (simp only [go_sem, Int.reduceToNat, Nat.reducePow, Int.reduceEq, Int.reduceNe, Int.reduceLT, Int.reduceLE, Nat.reduceAdd, Nat.reduceLeDiff, ↓reduceIte, Nat.reduceLT, Nat.reduceMul, Nat.reduceSub, reduceCtorEq, frzLoc, rowCells, vAppM, beq_iff_eq, bne_iff_ne, bne_self_eq_false, beq_self_eq_true, beq_true, beq_false, I, B, w, vf44_res, vf44_keep, List.length_map, h1, h2, gt_iff_lt]))))
  have n1 : ¬ (l.length : Int) < 18 := by omega
  have n2 : ¬ (34 : Int) < (l.length : Int) := by omega
  refine CV_run (vf := vf44) rfl rfl ?_
  rw [vf44_start]
  (repeat (first
    | refine RX_seq ?_
    | refine RX_block ?_
    | ((first | refine RX_reg ?_ | refine RX_cond' ?_ | refine RX_draw0 ?_ | refine RX_draw rfl ?_ | refine RX_skip ?_ | refine RX_exit ?_ | refine RX_ret ?_); try (simp only [go_sem, Int.reduceToNat, Nat.reducePow, Int.reduceEq, Int.reduceNe, Int.reduceLT, Int.reduceLE, Nat.reduceAdd, Nat.reduceLeDiff, ↓reduceIte, Nat.reduceLT, Nat.reduceMul, Nat.reduceSub, reduceCtorEq, frzLoc, rowCells, vAppM, beq_iff_eq, bne_iff_ne, bne_self_eq_false, beq_self_eq_true, beq_true, beq_false, I, B, w, vf44_res, vf44_keep, List.length_map, n1, n2, gt_iff_lt]))))
  refine RX_loopN (n := 1) rfl ?_
  refine RL_ind (fun m st => ∃ (i : Nat) (v : V) (live : List Nat) (gn : Nat), i + m = l.length ∧ (∀ (j : Nat) (p : Tm), j < i → l[j]? = some p → p.op = 1 ∧ (18 ≤ j → rbB p)) ∧ Acc 1 v live (byR ((l.take i).drop 18)) ∧
    At vf44K0 1 st ((.d (.sl (l.map Tm.row)) :: .any :: .ptr 0 0 :: .any :: .any :: v :: .d (I (i : Nat)) :: .any :: .any :: .any :: .any :: .any :: .any :: .any :: .any :: .any :: .any :: .any :: .any :: .any :: .any :: .any :: .any :: .any :: .any :: .any :: .any :: .any :: .any :: .any :: .any :: .any :: .any :: .any :: .any :: .any :: .any :: .any :: .any :: .any :: .any :: .any :: .any :: .any :: .any :: .any :: .any :: .any :: .any :: .any :: .any :: .any :: .any :: .any :: .any :: .any :: .any :: .any :: .any :: .any :: .any :: .any :: .any :: .any :: .any :: .any :: .any :: .any :: .any :: .any :: .any :: .any :: .any :: .any :: .any :: .any :: .any :: .any :: .any :: .any :: .any :: .any :: .any :: .any :: .any :: .any :: .any :: .any :: .any :: .any :: .any :: .any :: .any :: .any :: .any :: .any :: .any :: .any :: [])) [[.d (I 0), .d (U 0), .d (U 0), .d (I 0), .d (U 0), .d (U 0), .d (I 0), .d (U 0), .d (U 0), .d (I 0), .d (U 0), .d (U 0), .d (I 0), .d (I 0), .d (I 0), .d (I 0), .d (I 0), .d (I 0)]] live gn 0) ?_ l.length _
    ⟨0, .nil, [], 0, Nat.zero_add _, fun j p hj => absurd hj (Nat.not_lt_zero _), .inl ⟨rfl, rfl, rfl⟩, rfl, rfl, rfl, rfl, rfl, rfl⟩
  rintro m st ⟨i, v, live, gn, hi, hgood, hv, hat⟩ ih
  cases m with
  | zero =>
    have h1 : ¬ i < l.length := by omega
    have hok : rbOk l := by
      refine ⟨by omega, by omega, fun t ht => ?_, fun t ht => ?_⟩
      · obtain ⟨j, hj⟩ := List.getElem?_of_mem ht
        exact (hgood j t (by have := (List.getElem?_eq_some_iff.1 hj).1; omega) hj).1
      · obtain ⟨j, hj⟩ := List.getElem?_of_mem ht
        rw [List.getElem?_drop] at hj
        exact (hgood (18 + j) t (by have := (List.getElem?_eq_some_iff.1 hj).1; omega) hj).2 (by omega)
    have htk : l.take i = l := List.take_of_length_le (by omega)
    rw [htk] at hv
    clear hgood ih
    obtain ⟨x0, g0⟩ : ∃ x, l[0]? = some x := ⟨_, List.getElem?_eq_getElem (by omega)⟩
    obtain ⟨x1, g1⟩ : ∃ x, l[1]? = some x := ⟨_, List.getElem?_eq_getElem (by omega)⟩
    obtain ⟨x2, g2⟩ : ∃ x, l[2]? = some x := ⟨_, List.getElem?_eq_getElem (by omega)⟩
    obtain ⟨x3, g3⟩ : ∃ x, l[3]? = some x := ⟨_, List.getElem?_eq_getElem (by omega)⟩
    obtain ⟨x4, g4⟩ : ∃ x, l[4]? = some x := ⟨_, List.getElem?_eq_getElem (by omega)⟩
    obtain ⟨x5, g5⟩ : ∃ x, l[5]? = some x := ⟨_, List.getElem?_eq_getElem (by omega)⟩
    obtain ⟨x6, g6⟩ : ∃ x, l[6]? = some x := ⟨_, List.getElem?_eq_getElem (by omega)⟩
    obtain ⟨x7, g7⟩ : ∃ x, l[7]? = some x := ⟨_, List.getElem?_eq_getElem (by omega)⟩
    obtain ⟨x8, g8⟩ : ∃ x, l[8]? = some x := ⟨_, List.getElem?_eq_getElem (by omega)⟩
    obtain ⟨x9, g9⟩ : ∃ x, l[9]? = some x := ⟨_, List.getElem?_eq_getElem (by omega)⟩
    obtain ⟨x10, g10⟩ : ∃ x, l[10]? = some x := ⟨_, List.getElem?_eq_getElem (by omega)⟩
    obtain ⟨x11, g11⟩ : ∃ x, l[11]? = some x := ⟨_, List.getElem?_eq_getElem (by omega)⟩
    obtain ⟨x12, g12⟩ : ∃ x, l[12]? = some x := ⟨_, List.getElem?_eq_getElem (by omega)⟩
    obtain ⟨x13, g13⟩ : ∃ x, l[13]? = some x := ⟨_, List.getElem?_eq_getElem (by omega)⟩
    obtain ⟨x14, g14⟩ : ∃ x, l[14]? = some x := ⟨_, List.getElem?_eq_getElem (by omega)⟩
    obtain ⟨x15, g15⟩ : ∃ x, l[15]? = some x := ⟨_, List.getElem?_eq_getElem (by omega)⟩
    obtain ⟨x16, g16⟩ : ∃ x, l[16]? = some x := ⟨_, List.getElem?_eq_getElem (by omega)⟩
    obtain ⟨x17, g17⟩ : ∃ x, l[17]? = some x := ⟨_, List.getElem?_eq_getElem (by omega)⟩
    have n0 : rbN l 0 = x0.val := by rw [rbN, List.getD_eq_getElem?_getD, g0]; rfl
    have n1 : rbN l 1 = x1.val := by rw [rbN, List.getD_eq_getElem?_getD, g1]; rfl
    have n2 : rbN l 2 = x2.val := by rw [rbN, List.getD_eq_getElem?_getD, g2]; rfl
    have n3 : rbN l 3 = x3.val := by rw [rbN, List.getD_eq_getElem?_getD, g3]; rfl
    have n4 : rbN l 4 = x4.val := by rw [rbN, List.getD_eq_getElem?_getD, g4]; rfl
    have n5 : rbN l 5 = x5.val := by rw [rbN, List.getD_eq_getElem?_getD, g5]; rfl
    have n6 : rbN l 6 = x6.val := by rw [rbN, List.getD_eq_getElem?_getD, g6]; rfl
    have n7 : rbN l 7 = x7.val := by rw [rbN, List.getD_eq_getElem?_getD, g7]; rfl
    have n8 : rbN l 8 = x8.val := by rw [rbN, List.getD_eq_getElem?_getD, g8]; rfl
    have n9 : rbN l 9 = x9.val := by rw [rbN, List.getD_eq_getElem?_getD, g9]; rfl
    have n10 : rbN l 10 = x10.val := by rw [rbN, List.getD_eq_getElem?_getD, g10]; rfl
    have n11 : rbN l 11 = x11.val := by rw [rbN, List.getD_eq_getElem?_getD, g11]; rfl
    have n12 : rbN l 12 = x12.val := by rw [rbN, List.getD_eq_getElem?_getD, g12]; rfl
    have n13 : rbN l 13 = x13.val := by rw [rbN, List.getD_eq_getElem?_getD, g13]; rfl
    have n14 : rbN l 14 = x14.val := by rw [rbN, List.getD_eq_getElem?_getD, g14]; rfl
    have n15 : rbN l 15 = x15.val := by rw [rbN, List.getD_eq_getElem?_getD, g15]; rfl
    have n16 : rbN l 16 = x16.val := by rw [rbN, List.getD_eq_getElem?_getD, g16]; rfl
    have n17 : rbN l 17 = x17.val := by rw [rbN, List.getD_eq_getElem?_getD, g17]; rfl
    have r12 : (l.map Tm.row)[12]? = some [I x12.op, I x12.val, .sl (x12.args.map Tm.row)] := by rw [List.getElem?_map, g12]; simp [Tm.row_eq]
    have k12 : 12 < l.length := by omega
    have ki12 : (12 : Int) < (l.length : Int) := by omega
    have r13 : (l.map Tm.row)[13]? = some [I x13.op, I x13.val, .sl (x13.args.map Tm.row)] := by rw [List.getElem?_map, g13]; simp [Tm.row_eq]
    have k13 : 13 < l.length := by omega
    have ki13 : (13 : Int) < (l.length : Int) := by omega
    have r14 : (l.map Tm.row)[14]? = some [I x14.op, I x14.val, .sl (x14.args.map Tm.row)] := by rw [List.getElem?_map, g14]; simp [Tm.row_eq]
    have k14 : 14 < l.length := by omega
    have ki14 : (14 : Int) < (l.length : Int) := by omega
    have r15 : (l.map Tm.row)[15]? = some [I x15.op, I x15.val, .sl (x15.args.map Tm.row)] := by rw [List.getElem?_map, g15]; simp [Tm.row_eq]
    have k15 : 15 < l.length := by omega
    have ki15 : (15 : Int) < (l.length : Int) := by omega
    have r16 : (l.map Tm.row)[16]? = some [I x16.op, I x16.val, .sl (x16.args.map Tm.row)] := by rw [List.getElem?_map, g16]; simp [Tm.row_eq]
    have k16 : 16 < l.length := by omega
    have ki16 : (16 : Int) < (l.length : Int) := by omega
    have r17 : (l.map Tm.row)[17]? = some [I x17.op, I x17.val, .sl (x17.args.map Tm.row)] := by rw [List.getElem?_map, g17]; simp [Tm.row_eq]
    have k17 : 17 < l.length := by omega
    have ki17 : (17 : Int) < (l.length : Int) := by omega
    have a0 := e89 l 0 hl g0 g1 g2
    have a3 := e89 l 3 hl g3 g4 g5
    have a6 := e89 l 6 hl g6 g7 g8
    have a9 := e89 l 9 hl g9 g10 g11
    simp only [nc0, nc3, nc6, nc9] at a0 a3 a6 a9
    have h90 := e90 x0.val (uw x1.val) (uw x2.val) x3.val (uw x4.val) (uw x5.val) x6.val (uw x7.val) (uw x8.val) x9.val (uw x10.val) (uw x11.val) x12.val x13.val x14.val x15.val x16.val x17.val
    have hC : rbC l = chk x0.val (uw x1.val) (uw x2.val) x3.val (uw x4.val) (uw x5.val) x6.val (uw x7.val) (uw x8.val) x9.val (uw x10.val) (uw x11.val) x12.val x13.val x14.val x15.val x16.val x17.val := by simp only [rbC, n0, n1, n2, n3, n4, n5, n6, n7, n8, n9, n10, n11, n12, n13, n14, n15, n16, n17]
    have hS : rbS l = ⟨((l.drop 18).map fun t => UInt8.ofNat t.val.toNat).toArray⟩ := rfl
    have hby := byR_bytes (ts := l.drop 18)
    by_cases h0 : chk x0.val (uw x1.val) (uw x2.val) x3.val (uw x4.val) (uw x5.val) x6.val (uw x7.val) (uw x8.val) x9.val (uw x10.val) (uw x11.val) x12.val x13.val x14.val x15.val x16.val x17.val = 0
    · have hV : rbV l = .tup [.agg [.d (I x0.val), .d (U (uw x1.val)), .d (U (uw x2.val)), .d (I x3.val), .d (U (uw x4.val)), .d (U (uw x5.val)), .d (I x6.val), .d (U (uw x7.val)), .d (U (uw x8.val)), .d (I x9.val), .d (U (uw x10.val)), .d (U (uw x11.val)), .d (I x12.val), .d (I x13.val), .d (I x14.val), .d (I x15.val), .d (I x16.val), .d (I x17.val)], .d (.lit (.string (rbS l))), .d (B true)] := by
        unfold rbV
        rw [if_pos ⟨hok, by rw [hC]; exact h0⟩]
        simp only [n0, n1, n2, n3, n4, n5, n6, n7, n8, n9, n10, n11, n12, n13, n14, n15, n16, n17]
      rw [hV, hS]
      rw [h0] at h90
      generalize (l.drop 18).map (fun t => UInt8.ofNat t.val.toNat) = bys at *
      rcases hv with ⟨rfl, rfl, hr0⟩ | ⟨g, rfl, rfl⟩
      · have hb0 : bys = [] := by rw [hr0] at hby; simp only [bytesOf, Option.some.injEq] at hby; exact hby.symm
        subst hb0
        refine RL_at hat rfl rfl (vf44L0_go ?_)
        (repeat (first
    | refine RX_seq ?_
    | refine RX_block ?_
    | ((first | refine RX_reg ?_ | refine RX_cond' ?_ | refine RX_draw0 ?_ | refine RX_draw rfl ?_ | refine RX_skip ?_ | refine RX_exit ?_ | refine RX_ret ?_); try (simp only [go_sem, Int.reduceToNat, Nat.reducePow, Int.reduceEq, Int.reduceNe, Int.reduceLT, Int.reduceLE, Nat.reduceAdd, Nat.reduceLeDiff, ↓reduceIte, Nat.reduceLT, Nat.reduceMul, Nat.reduceSub, reduceCtorEq, frzLoc, rowCells, vAppM, beq_iff_eq, bne_iff_ne, bne_self_eq_false, beq_self_eq_true, beq_true, beq_false, I, B, w, vf44_res, vf44_keep, List.length_map, h1, a0, a3, a6, a9, h90, r12, k12, ki12, r13, k13, ki13, r14, k14, ki14, r15, k15, ki15, r16, k16, ki16, r17, k17, ki17, ibne, hby, vRows, h0, hr0, bytesOf]))))
      · refine RL_at hat rfl rfl (vf44L0_go ?_)
        (repeat (first
    | refine RX_seq ?_
    | refine RX_block ?_
    | ((first | refine RX_reg ?_ | refine RX_cond' ?_ | refine RX_draw0 ?_ | refine RX_draw rfl ?_ | refine RX_skip ?_ | refine RX_exit ?_ | refine RX_ret ?_); try (simp only [go_sem, Int.reduceToNat, Nat.reducePow, Int.reduceEq, Int.reduceNe, Int.reduceLT, Int.reduceLE, Nat.reduceAdd, Nat.reduceLeDiff, ↓reduceIte, Nat.reduceLT, Nat.reduceMul, Nat.reduceSub, reduceCtorEq, frzLoc, rowCells, vAppM, beq_iff_eq, bne_iff_ne, bne_self_eq_false, beq_self_eq_true, beq_true, beq_false, I, B, w, vf44_res, vf44_keep, List.length_map, h1, a0, a3, a6, a9, h90, r12, k12, ki12, r13, k13, ki13, r14, k14, ki14, r15, k15, ki15, r16, k16, ki16, r17, k17, ki17, ibne, hby, vRows, h0]))))
    · have hV : rbV l = rb0 := by
        unfold rbV
        rw [if_neg]
        rintro ⟨_, h⟩
        rw [hC] at h
        exact h0 h
      rw [hV]
      simp only [rb0]
      rcases hv with ⟨rfl, rfl, hr0⟩ | ⟨g, rfl, rfl⟩
      · refine RL_at hat rfl rfl (vf44L0_go ?_)
        (repeat (first
    | refine RX_seq ?_
    | refine RX_block ?_
    | ((first | refine RX_reg ?_ | refine RX_cond' ?_ | refine RX_draw0 ?_ | refine RX_draw rfl ?_ | refine RX_skip ?_ | refine RX_exit ?_ | refine RX_ret ?_); try (simp only [go_sem, Int.reduceToNat, Nat.reducePow, Int.reduceEq, Int.reduceNe, Int.reduceLT, Int.reduceLE, Nat.reduceAdd, Nat.reduceLeDiff, ↓reduceIte, Nat.reduceLT, Nat.reduceMul, Nat.reduceSub, reduceCtorEq, frzLoc, rowCells, vAppM, beq_iff_eq, bne_iff_ne, bne_self_eq_false, beq_self_eq_true, beq_true, beq_false, I, B, w, vf44_res, vf44_keep, List.length_map, h1, a0, a3, a6, a9, h90, r12, k12, ki12, r13, k13, ki13, r14, k14, ki14, r15, k15, ki15, r16, k16, ki16, r17, k17, ki17, ibne, hby, vRows, h0, hr0, bytesOf]))))
      · refine RL_at hat rfl rfl (vf44L0_go ?_)
        (repeat (first
    | refine RX_seq ?_
    | refine RX_block ?_
    | ((first | refine RX_reg ?_ | refine RX_cond' ?_ | refine RX_draw0 ?_ | refine RX_draw rfl ?_ | refine RX_skip ?_ | refine RX_exit ?_ | refine RX_ret ?_); try (simp only [go_sem, Int.reduceToNat, Nat.reducePow, Int.reduceEq, Int.reduceNe, Int.reduceLT, Int.reduceLE, Nat.reduceAdd, Nat.reduceLeDiff, ↓reduceIte, Nat.reduceLT, Nat.reduceMul, Nat.reduceSub, reduceCtorEq, frzLoc, rowCells, vAppM, beq_iff_eq, bne_iff_ne, bne_self_eq_false, beq_self_eq_true, beq_true, beq_false, I, B, w, vf44_res, vf44_keep, List.length_map, h1, a0, a3, a6, a9, h90, r12, k12, ki12, r13, k13, ki13, r14, k14, ki14, r15, k15, ki15, r16, k16, ki16, r17, k17, ki17, ibne, hby, vRows, h0]))))
  | succ m =>
    have h1 : i < l.length := by omega
    obtain ⟨p, hp⟩ : ∃ p, l[i]? = some p := ⟨_, List.getElem?_eq_getElem h1⟩
    have hrp : (l.map Tm.row)[i]? = some [I p.op, I p.val, .sl (p.args.map Tm.row)] := by rw [List.getElem?_map, hp]; simp [Tm.row_eq]
    have hwi := w_nat (i := i) (by omega)
    have next := fun (h : p.op = 1 ∧ (18 ≤ i → rbB p)) v live gn st (hv : Acc 1 v live (byR ((l.take (i + 1)).drop 18))) hat => ih m st (Nat.lt_succ_self m) ⟨i + 1, v, live, gn, by omega, fun j q hj hq => by
      rcases Nat.lt_or_ge j i with hji | hji
      · exact hgood j q hji hq
      · obtain rfl : j = i := by omega
        rw [hp] at hq; cases hq; exact h, hv, hat⟩
    have bad : ¬ (p.op = 1 ∧ (18 ≤ i → rbB p)) → rbV l = rb0 := fun h => rbV_bad fun k => h ⟨k.2.2.1 p (List.mem_of_getElem? hp), fun h18 => k.2.2.2 p (List.mem_of_getElem? (i := i - 18) (by rw [List.getElem?_drop, show 18 + (i - 18) = i by omega]; exact hp))⟩
    clear ih hgood
    by_cases h2 : p.op = 1
    case neg =>
      rw [bad fun h => h2 h.1]
      simp only [rb0]
      rcases hv with ⟨rfl, rfl, _⟩ | ⟨g, rfl, rfl⟩ <;>
      · refine RL_at hat rfl rfl (vf44L0_go ?_)
        (repeat (first
    | refine RX_seq ?_
    | refine RX_block ?_
    | ((first | refine RX_reg ?_ | refine RX_cond' ?_ | refine RX_draw0 ?_ | refine RX_draw rfl ?_ | refine RX_skip ?_ | refine RX_exit ?_ | refine RX_ret ?_); try (simp only [go_sem, Int.reduceToNat, Nat.reducePow, Int.reduceEq, Int.reduceNe, Int.reduceLT, Int.reduceLE, Nat.reduceAdd, Nat.reduceLeDiff, ↓reduceIte, Nat.reduceLT, Nat.reduceMul, Nat.reduceSub, reduceCtorEq, frzLoc, rowCells, vAppM, beq_iff_eq, bne_iff_ne, bne_self_eq_false, beq_self_eq_true, beq_true, beq_false, I, B, w, vf44_res, vf44_keep, List.length_map, h1, hrp, ibne, h2]))))
    by_cases h18 : 18 ≤ i
    · have hi18 : (18 : Int) ≤ (i : Int) := by omega
      by_cases h3 : p.val < 0
      · rw [bad fun h => by have := (h.2 h18).1; omega]
        simp only [rb0]
        rcases hv with ⟨rfl, rfl, _⟩ | ⟨g, rfl, rfl⟩ <;>
        · refine RL_at hat rfl rfl (vf44L0_go ?_)
          (repeat (first
    | refine RX_seq ?_
    | refine RX_block ?_
    | ((first | refine RX_reg ?_ | refine RX_cond' ?_ | refine RX_draw0 ?_ | refine RX_draw rfl ?_ | refine RX_skip ?_ | refine RX_exit ?_ | refine RX_ret ?_); try (simp only [go_sem, Int.reduceToNat, Nat.reducePow, Int.reduceEq, Int.reduceNe, Int.reduceLT, Int.reduceLE, Nat.reduceAdd, Nat.reduceLeDiff, ↓reduceIte, Nat.reduceLT, Nat.reduceMul, Nat.reduceSub, reduceCtorEq, frzLoc, rowCells, vAppM, beq_iff_eq, bne_iff_ne, bne_self_eq_false, beq_self_eq_true, beq_true, beq_false, I, B, w, vf44_res, vf44_keep, List.length_map, h1, hrp, ibne, h2, hi18, ge_iff_le, h3]))))
      by_cases h4 : 255 < p.val
      · rw [bad fun h => by have := (h.2 h18).2; omega]
        simp only [rb0]
        rcases hv with ⟨rfl, rfl, _⟩ | ⟨g, rfl, rfl⟩ <;>
        · refine RL_at hat rfl rfl (vf44L0_go ?_)
          (repeat (first
    | refine RX_seq ?_
    | refine RX_block ?_
    | ((first | refine RX_reg ?_ | refine RX_cond' ?_ | refine RX_draw0 ?_ | refine RX_draw rfl ?_ | refine RX_skip ?_ | refine RX_exit ?_ | refine RX_ret ?_); try (simp only [go_sem, Int.reduceToNat, Nat.reducePow, Int.reduceEq, Int.reduceNe, Int.reduceLT, Int.reduceLE, Nat.reduceAdd, Nat.reduceLeDiff, ↓reduceIte, Nat.reduceLT, Nat.reduceMul, Nat.reduceSub, reduceCtorEq, frzLoc, rowCells, vAppM, beq_iff_eq, bne_iff_ne, bne_self_eq_false, beq_self_eq_true, beq_true, beq_false, I, B, w, vf44_res, vf44_keep, List.length_map, h1, hrp, ibne, h2, hi18, ge_iff_le, gt_iff_lt, h3, h4]))))
      have hsn := take_drop_snoc hp h18
      have hu8 : IntKind.u8.wrap p.val = p.val := by
        show p.val % 256 = p.val
        omega
      have nx := next ⟨h2, fun _ => ⟨by omega, by omega⟩⟩
      rw [hsn] at nx
      have hlen : (byR ((l.take i).drop 18)).length + 1 ≤ 4294967296 := by rw [byR, List.length_map, List.length_drop, List.length_take]; omega
      rcases hv with ⟨rfl, rfl, hr0⟩ | ⟨g, rfl, rfl⟩
      · refine RL_at hat rfl rfl (vf44L0_go ?_)
        (repeat (first
    | refine RX_seq ?_
    | refine RX_block ?_
    | ((first | refine RX_reg ?_ | refine RX_cond' ?_ | refine RX_draw0 ?_ | refine RX_draw rfl ?_ | refine RX_skip ?_ | refine RX_exit ?_ | refine RX_ret ?_); try (simp only [go_sem, Int.reduceToNat, Nat.reducePow, Int.reduceEq, Int.reduceNe, Int.reduceLT, Int.reduceLE, Nat.reduceAdd, Nat.reduceLeDiff, ↓reduceIte, Nat.reduceLT, Nat.reduceMul, Nat.reduceSub, reduceCtorEq, frzLoc, rowCells, vAppM, beq_iff_eq, bne_iff_ne, bne_self_eq_false, beq_self_eq_true, beq_true, beq_false, I, B, w, vf44_res, vf44_keep, List.length_map, h1, hrp, ibne, h2, hi18, ge_iff_le, gt_iff_lt, h3, h4, hu8, hwi]))))
        refine nx _ _ _ _ (.inr ⟨_, ?_, rfl⟩) ⟨rfl, rfl, rfl, rfl, rfl, rfl⟩
        rw [byR, List.map_append, show (List.map (fun t => [D.lit (Value.int IntKind.u8 (Tm.val t))]) ((l.take i).drop 18)) = [] from hr0]
        rfl
      · refine RL_at hat rfl rfl (vf44L0_go ?_)
        (repeat (first
    | refine RX_seq ?_
    | refine RX_block ?_
    | ((first | refine RX_reg ?_ | refine RX_cond' ?_ | refine RX_draw0 ?_ | refine RX_draw rfl ?_ | refine RX_skip ?_ | refine RX_exit ?_ | refine RX_ret ?_); try (simp only [go_sem, Int.reduceToNat, Nat.reducePow, Int.reduceEq, Int.reduceNe, Int.reduceLT, Int.reduceLE, Nat.reduceAdd, Nat.reduceLeDiff, ↓reduceIte, Nat.reduceLT, Nat.reduceMul, Nat.reduceSub, reduceCtorEq, frzLoc, rowCells, vAppM, beq_iff_eq, bne_iff_ne, bne_self_eq_false, beq_self_eq_true, beq_true, beq_false, I, B, w, vf44_res, vf44_keep, List.length_map, h1, hrp, ibne, h2, hi18, ge_iff_le, gt_iff_lt, h3, h4, hu8, hwi, hlen]))))
        refine nx _ _ _ _ (.inr ⟨_, ?_, rfl⟩) ⟨rfl, rfl, rfl, rfl, rfl, rfl⟩
        simp [byR]
    · have hi18 : ¬ (18 : Int) ≤ (i : Int) := by omega
      have nx := next ⟨h2, fun h => absurd h h18⟩
      have e1 : (l.take i).drop 18 = [] := List.drop_eq_nil_of_le (by rw [List.length_take]; omega)
      have e2 : (l.take (i + 1)).drop 18 = [] := List.drop_eq_nil_of_le (by rw [List.length_take]; omega)
      rw [e1] at hv
      rw [e2] at nx
      rcases hv with ⟨rfl, rfl, hr0⟩ | ⟨g, rfl, rfl⟩
      · refine RL_at hat rfl rfl (vf44L0_go ?_)
        (repeat (first
    | refine RX_seq ?_
    | refine RX_block ?_
    | ((first | refine RX_reg ?_ | refine RX_cond' ?_ | refine RX_draw0 ?_ | refine RX_draw rfl ?_ | refine RX_skip ?_ | refine RX_exit ?_ | refine RX_ret ?_); try (simp only [go_sem, Int.reduceToNat, Nat.reducePow, Int.reduceEq, Int.reduceNe, Int.reduceLT, Int.reduceLE, Nat.reduceAdd, Nat.reduceLeDiff, ↓reduceIte, Nat.reduceLT, Nat.reduceMul, Nat.reduceSub, reduceCtorEq, frzLoc, rowCells, vAppM, beq_iff_eq, bne_iff_ne, bne_self_eq_false, beq_self_eq_true, beq_true, beq_false, I, B, w, vf44_res, vf44_keep, List.length_map, h1, hrp, ibne, h2, hi18, ge_iff_le, hwi]))))
        exact nx _ _ _ _ (.inl ⟨rfl, rfl, rfl⟩) ⟨rfl, rfl, rfl, rfl, rfl, rfl⟩
      · refine RL_at hat rfl rfl (vf44L0_go ?_)
        (repeat (first
    | refine RX_seq ?_
    | refine RX_block ?_
    | ((first | refine RX_reg ?_ | refine RX_cond' ?_ | refine RX_draw0 ?_ | refine RX_draw rfl ?_ | refine RX_skip ?_ | refine RX_exit ?_ | refine RX_ret ?_); try (simp only [go_sem, Int.reduceToNat, Nat.reducePow, Int.reduceEq, Int.reduceNe, Int.reduceLT, Int.reduceLE, Nat.reduceAdd, Nat.reduceLeDiff, ↓reduceIte, Nat.reduceLT, Nat.reduceMul, Nat.reduceSub, reduceCtorEq, frzLoc, rowCells, vAppM, beq_iff_eq, bne_iff_ne, bne_self_eq_false, beq_self_eq_true, beq_true, beq_false, I, B, w, vf44_res, vf44_keep, List.length_map, h1, hrp, ibne, h2, hi18, ge_iff_le, hwi]))))
        exact nx _ _ _ _ (.inr ⟨_, rfl, rfl⟩) ⟨rfl, rfl, rfl, rfl, rfl, rfl⟩
end Go.Proofs.Ytahiikdkgbbmfaa

namespace Go.Proofs.Ytahiikdkgbbmfaa
open Go.VM
/-- what a cursor gives, and where it stands then -/
def curV (l : List Tm) (s : Nat × Bool) : Int := if s.2 = true then 0 else if s.1 < l.length then (l.getD s.1 Tm.zero).val else 0
def curS (l : List Tm) (s : Nat × Bool) : Nat × Bool := if s.2 = true then s else if s.1 < l.length then (s.1 + 1, decide (¬ (l.getD s.1 Tm.zero).op = 1)) else (s.1, true)
def curM (l : List Tm) (s : Nat × Bool) : List V := [.d (.sl (l.map Tm.row)), .d (I (s.1 : Nat)), .d (B s.2)]
theorem e106e {rows : List (List D)} {n : Nat} (hl : ¬ n < rows.length) (id : Nat) : ∀ bl, CtxOk bl id →
    CV VP 106 [.ptr id 0] (gx bl id [.d (.sl rows), .d (I (n : Nat)), .d (B false)] []) = some ⟨.agg [.d (I 0), .d (I 0), .d (.sl [])], gx bl id [.d (.sl rows), .d (I (n : Nat)), .d (B true)] [], [], 0⟩ := by
  intro bl h
  have hid := h.lt
  have h1 : (rows.length : Int) ≤ (n : Int) := by omega
  refine CV_run (vf := vf106) rfl rfl ?_
  rw [vf106_start]
  (repeat (first
    | refine RX_seq ?_
    | refine RX_block ?_
    | ((first | refine RX_reg ?_ | refine RX_cond' ?_ | refine RX_draw0 ?_ | refine RX_draw rfl ?_ | refine RX_skip ?_ | refine RX_exit ?_ | refine RX_ret ?_); try (simp only [go_sem, Int.reduceToNat, Nat.reducePow, Int.reduceEq, Int.reduceNe, Int.reduceLT, Int.reduceLE, Nat.reduceAdd, Nat.reduceLeDiff, ↓reduceIte, Nat.reduceLT, Nat.reduceMul, Nat.reduceSub, reduceCtorEq, frzLoc, rowCells, vAppM, beq_iff_eq, bne_iff_ne, bne_self_eq_false, beq_self_eq_true, beq_true, beq_false, I, B, w, vf106_res, vf106_keep, gx_len, gx_app, gx_get h, gx_own0, gx_own, gx_set h, gx_setOwn0, gx_setOwn, gx_er h, gx_take, gx_all0 h, gx_all h, ge_iff_le, hid, h1, Nat.add_right_cancel_iff, Nat.lt_irrefl, cx_nlt, Nat.not_lt_zero, Nat.ne_of_lt hid, Nat.le_add_right]))))
  done
theorem e87e {rows : List (List D)} {n : Nat} (hl : ¬ n < rows.length) (id : Nat) : ∀ bl, CtxOk bl id →
    CV VP 87 [.ptr id 0] (gx bl id [.d (.sl rows), .d (I (n : Nat)), .d (B false)] []) = some ⟨.d (I 0), gx bl id [.d (.sl rows), .d (I (n : Nat)), .d (B true)] [], [], 0⟩ := by
  intro bl h
  have hid := h.lt
  have h106 := e106e hl id bl h
  have h01 : ¬ (0 : Int) = 1 := by decide
  clear hl
  refine CV_run (vf := vf87) rfl rfl ?_
  rw [vf87_start]
  (repeat (first
    | refine RX_seq ?_
    | refine RX_block ?_
    | ((first | refine RX_reg ?_ | refine RX_cond' ?_ | refine RX_draw0 ?_ | refine RX_draw rfl ?_ | refine RX_skip ?_ | refine RX_exit ?_ | refine RX_ret ?_); try (simp only [go_sem, Int.reduceToNat, Nat.reducePow, Int.reduceEq, Int.reduceNe, Int.reduceLT, Int.reduceLE, Nat.reduceAdd, Nat.reduceLeDiff, ↓reduceIte, Nat.reduceLT, Nat.reduceMul, Nat.reduceSub, reduceCtorEq, frzLoc, rowCells, vAppM, beq_iff_eq, bne_iff_ne, bne_self_eq_false, beq_self_eq_true, beq_true, beq_false, I, B, w, vf87_res, vf87_keep, gx_len, gx_app, gx_get h, gx_own0, gx_own, gx_set h, gx_setOwn0, gx_setOwn, gx_er h, gx_take, gx_all0 h, gx_all h, hid, Nat.add_right_cancel_iff, Nat.lt_irrefl, cx_nlt, Nat.not_lt_zero, Nat.ne_of_lt hid, Nat.le_add_right, h106, ibne, h01, decide_not]))))
  done
theorem e87a {l : List Tm} (hl : l.length < 1000000) (s : Nat × Bool) (id : Nat) : ∀ bl, CtxOk bl id →
    CV VP 87 [.ptr id 0] (gx bl id (curM l s) []) = some ⟨.d (I (curV l s)), gx bl id (curM l (curS l s)) [], [], 0⟩ := by
  intro bl h
  obtain ⟨n, b⟩ := s
  cases b with
  | true => simp only [curV, curS, curM, if_true]; exact e87b id bl h
  | false =>
    simp only [curV, curS, curM, Bool.false_eq_true, if_false]
    by_cases hn : n < l.length
    · simp only [hn, if_true]
      have hr : (l.map Tm.row)[n]? = some [I (l.getD n Tm.zero).op, I (l.getD n Tm.zero).val, .sl ((l.getD n Tm.zero).args.map Tm.row)] := by
        rw [List.getElem?_map, List.getD_eq_getElem?_getD, List.getElem?_eq_getElem hn]
        simp [Tm.row_eq]
      exact e87g (by omega) (by simpa using hn) hr id bl h
    · simp only [hn, if_false]
      exact e87e (by simpa using hn) id bl h
theorem e86a {l : List Tm} (hl : l.length < 1000000) (s : Nat × Bool) (id : Nat) : ∀ bl, CtxOk bl id →
    CV VP 86 [.ptr id 0] (gx bl id (curM l s) []) = some ⟨.agg [.d (I (curV l s)), .d (U (uw (curV l (curS l s)))), .d (U (uw (curV l (curS l (curS l s)))))], gx bl id (curM l (curS l (curS l (curS l s)))) [], [], 0⟩ := by
  intro bl h
  have hid := h.lt
  have lift : ∀ (s : Nat × Bool) (own : List (List V)), own.map V.erL = own → own.all (V.ltbL (bl.length + own.length)) = true → CV VP 87 [.ptr id 0] (gx bl id (curM l s) own) = some ⟨.d (I (curV l s)), gx bl id (curM l (curS l s)) own, [], 0⟩ := by
    intro s own he ho
    have hc : CtxOk (gx bl id (curM l s) own) id := by
      refine ⟨by rw [gx_len]; omega, by rw [gx_er h, he]; rfl, fun b hb => ?_⟩
      rw [gx_len]
      have := gx_all (c := curM l s) (own := own) (n := own.length) h
      rw [ho, Bool.and_true] at this
      have h2 : V.ltbL (bl.length + own.length) (curM l s) = true := rfl
      rw [h2] at this
      exact List.all_eq_true.1 this b hb
    have := e87a hl s id _ hc
    have g : ∀ c own2, gx (gx bl id (curM l s) own) id c own2 = gx bl id c (own ++ own2) := fun c own2 => by
      unfold gx
      rw [List.set_append_left _ _ (by simpa using h.lt), List.set_set, List.append_assoc]
    rw [g, g, List.append_nil] at this
    exact this
  generalize hs1 : curS l s = s1 at *
  generalize hs2 : curS l s1 = s2 at *
  generalize hs3 : curS l s2 = s3 at *
  have l0 := lift s
  have l1 := lift s1
  have l2 := lift s2
  rw [hs1] at l0
  rw [hs2] at l1
  rw [hs3] at l2
  clear lift
  have em : ∀ s, V.erL (curM l s) = curM l s := fun s => rfl
  have lm : ∀ n s, V.ltbL n (curM l s) = true := fun n s => rfl
  refine CV_run (vf := vf86) rfl rfl ?_
  rw [vf86_start]
  (repeat (first
    | refine RX_seq ?_
    | refine RX_block ?_
    | ((first | refine RX_reg ?_ | refine RX_cond' ?_ | refine RX_draw0 ?_ | refine RX_draw rfl ?_ | refine RX_skip ?_ | refine RX_exit ?_ | refine RX_ret ?_); try (simp only [go_sem, Int.reduceToNat, Nat.reducePow, Int.reduceEq, Int.reduceNe, Int.reduceLT, Int.reduceLE, Nat.reduceAdd, Nat.reduceLeDiff, ↓reduceIte, Nat.reduceLT, Nat.reduceMul, Nat.reduceSub, reduceCtorEq, frzLoc, rowCells, vAppM, beq_iff_eq, bne_iff_ne, bne_self_eq_false, beq_self_eq_true, beq_true, beq_false, I, B, w, vf86_res, vf86_keep, gx_len, gx_app, gx_own0, gx_own, gx_setOwn0, gx_setOwn, gx_er h, gx_take, gx_all0 h, gx_all h, hid, Nat.add_right_cancel_iff, Nat.lt_irrefl, cx_nlt, Nat.not_lt_zero, Nat.ne_of_lt hid, Nat.le_add_right, l0, l1, l2, em, lm]))))
  done
end Go.Proofs.Ytahiikdkgbbmfaa

namespace Go.Proofs.Ytahiikdkgbbmfaa
open Go.VM
/-- where the cursor stands behind some reads -/
def curI (l : List Tm) : Nat → Nat × Bool
  | 0 => (0, false)
  | k + 1 => curS l (curI l k)
theorem rbOk_op {l : List Tm} (h : rbOk l) {k : Nat} (hk : k < l.length) : (l.getD k Tm.zero).op = 1 := by
  rw [List.getD_eq_getElem?_getD, List.getElem?_eq_getElem hk]
  exact h.2.2.1 _ (List.getElem_mem hk)
theorem curI_ok (l : List Tm) : ∀ k, k ≤ 18 → ((curI l k).2 = true ∧ ¬ rbOk l) ∨ (curI l k = (k, false) ∧ k ≤ l.length ∧ ∀ j, j < k → (l.getD j Tm.zero).op = 1)
  | 0, _ => .inr ⟨rfl, Nat.zero_le _, fun j hj => absurd hj (Nat.not_lt_zero _)⟩
  | k + 1, hk => by
    rcases curI_ok l k (by omega) with ⟨h1, h2⟩ | ⟨h1, h2, h3⟩
    · left
      refine ⟨?_, h2⟩
      rw [curI, curS, if_pos h1]; exact h1
    · rw [curI, h1, curS]
      simp only [Bool.false_eq_true, if_false]
      by_cases hkl : k < l.length
      · simp only [hkl, if_true]
        by_cases ho : (l.getD k Tm.zero).op = 1
        · right
          simp only [ho, not_true_eq_false, decide_false, true_and]
          refine ⟨by omega, fun j hj => ?_⟩
          rcases Nat.lt_or_ge j k with h | h
          · exact h3 j h
          · obtain rfl : j = k := by omega
            exact ho
        · left
          simp only [ho, not_false_eq_true, decide_true, true_and]
          exact fun h => ho (rbOk_op h hkl)
      · left
        simp only [hkl, if_false, true_and]
        exact fun h => by have := h.1; omega
theorem curI_back {l : List Tm} : ∀ {k j : Nat}, (curI l (k + j)).2 = false → (curI l k).2 = false
  | k, 0, h => h
  | k, j + 1, h => by
    refine curI_back (j := j) ?_
    cases hb : (curI l (k + j)).2 with
    | false => rfl
    | true =>
      have : (curI l (k + (j + 1))) = curI l (k + j) := by
        show curS l (curI l (k + j)) = _
        rw [curS, if_pos hb]
      rw [this, hb] at h
      cases h
theorem curI_val {l : List Tm} {k : Nat} (hk : k < 18) (h : (curI l 18).2 = false) : curV l (curI l k) = rbN l k := by
  have h1 : (curI l (k + 1)).2 = false := curI_back (j := 18 - (k + 1)) (by rw [show k + 1 + (18 - (k + 1)) = 18 by omega]; exact h)
  rcases curI_ok l (k + 1) (by omega) with ⟨h2, _⟩ | ⟨_, h3, _⟩
  · rw [h2] at h1; cases h1
  · have h0 : (curI l k).2 = false := curI_back (j := 1) h1
    rcases curI_ok l k (by omega) with ⟨h2, _⟩ | ⟨h2, _, _⟩
    · rw [h2] at h0; cases h0
    · rw [h2, curV]
      simp only [Bool.false_eq_true, if_false]
      rw [if_pos (by omega), rbN]
theorem ctx1 (r b : List V) (h1 : V.erL r = r) (h2 : V.ltbL 3 r = true) (h3 : V.erL b = b) (h4 : V.ltbL 3 b = true) : CtxOk [r, [], b] 1 :=
  .of (by simp) (by simp [h1, h3, V.erL]) (by simp [h2, h4, V.ltbL])
abbrev z18 : List V := [.d (I 0), .d (U 0), .d (U 0), .d (I 0), .d (U 0), .d (U 0), .d (I 0), .d (U 0), .d (U 0), .d (I 0), .d (U 0), .d (U 0), .d (I 0), .d (I 0), .d (I 0), .d (I 0), .d (I 0), .d (I 0)]
abbrev bx18 (f0 h0 a0 f1 h1 a1 f2 h2 a2 f3 h3 a3 p0 p1 l0 l1 r0 r1 : Int) : List V := [.d (I f0), .d (U h0), .d (U a0), .d (I f1), .d (U h1), .d (U a1), .d (I f2), .d (U h2), .d (U a2), .d (I f3), .d (U h3), .d (U a3), .d (I p0), .d (I p1), .d (I l0), .d (I l1), .d (I r0), .d (I r1)]
theorem a43 {l : List Tm} (hl : l.length < 1000000) (s : Nat × Bool) (f0 h0 a0 f1 h1 a1 f2 h2 a2 f3 h3 a3 p0 p1 l0 l1 r0 r1 : Int) :
    CV VP 86 [.ptr 1 0] [z18, [.d (.sl (l.map Tm.row)), .d (I (s.1 : Nat)), .d (B s.2)], bx18 f0 h0 a0 f1 h1 a1 f2 h2 a2 f3 h3 a3 p0 p1 l0 l1 r0 r1] = some ⟨.agg [.d (I (curV l s)), .d (U (uw (curV l (curS l s)))), .d (U (uw (curV l (curS l (curS l s)))))], [z18, [.d (.sl (l.map Tm.row)), .d (I ((curS l (curS l (curS l s))).1 : Nat)), .d (B (curS l (curS l (curS l s))).2)], bx18 f0 h0 a0 f1 h1 a1 f2 h2 a2 f3 h3 a3 p0 p1 l0 l1 r0 r1], [], 0⟩ :=
  e86a hl s 1 _ (ctx1 z18 (bx18 f0 h0 a0 f1 h1 a1 f2 h2 a2 f3 h3 a3 p0 p1 l0 l1 r0 r1) rfl rfl rfl rfl)
theorem n43 {l : List Tm} (hl : l.length < 1000000) (s : Nat × Bool) (f0 h0 a0 f1 h1 a1 f2 h2 a2 f3 h3 a3 p0 p1 l0 l1 r0 r1 : Int) :
    CV VP 87 [.ptr 1 0] [z18, [.d (.sl (l.map Tm.row)), .d (I (s.1 : Nat)), .d (B s.2)], bx18 f0 h0 a0 f1 h1 a1 f2 h2 a2 f3 h3 a3 p0 p1 l0 l1 r0 r1] = some ⟨.d (I (curV l s)), [z18, [.d (.sl (l.map Tm.row)), .d (I ((curS l s).1 : Nat)), .d (B (curS l s).2)], bx18 f0 h0 a0 f1 h1 a1 f2 h2 a2 f3 h3 a3 p0 p1 l0 l1 r0 r1], [], 0⟩ :=
  e87a hl s 1 _ (ctx1 z18 (bx18 f0 h0 a0 f1 h1 a1 f2 h2 a2 f3 h3 a3 p0 p1 l0 l1 r0 r1) rfl rfl rfl rfl)
set_option maxRecDepth 20000 in
set_option maxHeartbeats 8000000 in
theorem e43 (l : List Tm) (hl : l.length < 1000000) : CV VP 43 [.d (.sl (l.map Tm.row))] [] = some ⟨rbV l, [], [], 0⟩ := by
  have a0 := a43 hl (curI l 0)
  have a3 := a43 hl (curI l 3)
  have a6 := a43 hl (curI l 6)
  have a9 := a43 hl (curI l 9)
  have a12 := n43 hl (curI l 12)
  have a13 := n43 hl (curI l 13)
  have a14 := n43 hl (curI l 14)
  have a15 := n43 hl (curI l 15)
  have a16 := n43 hl (curI l 16)
  have a17 := n43 hl (curI l 17)
  have e0 : curS l (curI l 0) = curI l 1 := rfl
  have e1 : curS l (curI l 1) = curI l 2 := rfl
  have e2 : curS l (curI l 2) = curI l 3 := rfl
  have e3 : curS l (curI l 3) = curI l 4 := rfl
  have e4 : curS l (curI l 4) = curI l 5 := rfl
  have e5 : curS l (curI l 5) = curI l 6 := rfl
  have e6 : curS l (curI l 6) = curI l 7 := rfl
  have e7 : curS l (curI l 7) = curI l 8 := rfl
  have e8 : curS l (curI l 8) = curI l 9 := rfl
  have e9 : curS l (curI l 9) = curI l 10 := rfl
  have e10 : curS l (curI l 10) = curI l 11 := rfl
  have e11 : curS l (curI l 11) = curI l 12 := rfl
  have e12 : curS l (curI l 12) = curI l 13 := rfl
  have e13 : curS l (curI l 13) = curI l 14 := rfl
  have e14 : curS l (curI l 14) = curI l 15 := rfl
  have e15 : curS l (curI l 15) = curI l 16 := rfl
  have e16 : curS l (curI l 16) = curI l 17 := rfl
  have e17 : curS l (curI l 17) = curI l 18 := rfl
  simp only [e0, e1, e2, e3, e4, e5, e6, e7, e8, e9, e10, e11, e12, e13, e14, e15, e16, e17] at a0 a3 a6 a9 a12 a13 a14 a15 a16 a17
  have hz : curI l 0 = (0, false) := rfl
  simp only [hz, nc0] at a0
  clear e0 e1 e2 e3 e4 e5 e6 e7 e8 e9 e10 e11 e12 e13 e14 e15 e16 e17 hz
  have hok := curI_ok l 18 (Nat.le_refl _)
  have hval := fun k hk => curI_val (l := l) (k := k) hk
  have hv0 := hval 0 (by decide)
  have hz : curI l 0 = (0, false) := rfl
  rw [hz] at hv0
  have hv1 := hval 1 (by decide)
  have hv2 := hval 2 (by decide)
  have hv3 := hval 3 (by decide)
  have hv4 := hval 4 (by decide)
  have hv5 := hval 5 (by decide)
  have hv6 := hval 6 (by decide)
  have hv7 := hval 7 (by decide)
  have hv8 := hval 8 (by decide)
  have hv9 := hval 9 (by decide)
  have hv10 := hval 10 (by decide)
  have hv11 := hval 11 (by decide)
  have hv12 := hval 12 (by decide)
  have hv13 := hval 13 (by decide)
  have hv14 := hval 14 (by decide)
  have hv15 := hval 15 (by decide)
  have hv16 := hval 16 (by decide)
  have hv17 := hval 17 (by decide)
  clear hval hz
  generalize curV l (0, false) = v0 at *
  generalize curV l (curI l 1) = v1 at *
  generalize curV l (curI l 2) = v2 at *
  generalize curV l (curI l 3) = v3 at *
  generalize curV l (curI l 4) = v4 at *
  generalize curV l (curI l 5) = v5 at *
  generalize curV l (curI l 6) = v6 at *
  generalize curV l (curI l 7) = v7 at *
  generalize curV l (curI l 8) = v8 at *
  generalize curV l (curI l 9) = v9 at *
  generalize curV l (curI l 10) = v10 at *
  generalize curV l (curI l 11) = v11 at *
  generalize curV l (curI l 12) = v12 at *
  generalize curV l (curI l 13) = v13 at *
  generalize curV l (curI l 14) = v14 at *
  generalize curV l (curI l 15) = v15 at *
  generalize curV l (curI l 16) = v16 at *
  generalize curV l (curI l 17) = v17 at *
  generalize curI l 3 = s3 at *
  generalize curI l 6 = s6 at *
  generalize curI l 9 = s9 at *
  generalize curI l 12 = s12 at *
  generalize curI l 13 = s13 at *
  generalize curI l 14 = s14 at *
  generalize curI l 15 = s15 at *
  generalize curI l 16 = s16 at *
  generalize curI l 17 = s17 at *
  generalize curI l 18 = s18 at *
  have w0 : IntKind.i64.wrap (0 + 1) = 1 := rfl
  have w1 : IntKind.i64.wrap (1 + 1) = 2 := rfl
  have w2 : IntKind.i64.wrap (2 + 1) = 3 := rfl
  have w3 : IntKind.i64.wrap (3 + 1) = 4 := rfl
  have w4 : IntKind.i64.wrap (4 + 1) = 5 := rfl
  have w5 : IntKind.i64.wrap (5 + 1) = 6 := rfl
  simp only [z18, bx18] at a0 a3 a6 a9 a12 a13 a14 a15 a16 a17
  refine CV_run (vf := vf43) rfl rfl ?_
  rw [vf43_start]
  (repeat (first
    | refine RX_seq ?_
    | refine RX_block ?_
    | ((first | refine RX_reg ?_ | refine RX_cond' ?_ | refine RX_draw0 ?_ | refine RX_draw rfl ?_ | refine RX_skip ?_ | refine RX_exit ?_ | refine RX_ret ?_); try (simp only [go_sem, Int.reduceToNat, Nat.reducePow, Int.reduceEq, Int.reduceNe, Int.reduceLT, Int.reduceLE, Nat.reduceAdd, Nat.reduceLeDiff, ↓reduceIte, Nat.reduceLT, Nat.reduceMul, Nat.reduceSub, reduceCtorEq, frzLoc, rowCells, vAppM, beq_iff_eq, bne_iff_ne, bne_self_eq_false, beq_self_eq_true, beq_true, beq_false, I, B, w, vf43_res, vf43_keep, a0, a3, a6, a9, a12, a13, a14, a15, a16, a17]))))
  refine RX_loop ?_
  (refine RL_head ?_; (simp only [go_sem, Int.reduceToNat, Nat.reducePow, Int.reduceEq, Int.reduceNe, Int.reduceLT, Int.reduceLE, Nat.reduceAdd, Nat.reduceLeDiff, ↓reduceIte, Nat.reduceLT, Nat.reduceMul, Nat.reduceSub, reduceCtorEq, frzLoc, rowCells, vAppM, beq_iff_eq, bne_iff_ne, bne_self_eq_false, beq_self_eq_true, beq_true, beq_false, I, B, w, St.head, forget, vf43K0, RLK_some, vf43_res, vf43_keep, w0, a0, a3, a6, a9, a12, a13, a14, a15, a16, a17]); refine vf43L0_go ?_; ((repeat (first
    | refine RX_seq ?_
    | refine RX_block ?_
    | ((first | refine RX_reg ?_ | refine RX_cond' ?_ | refine RX_draw0 ?_ | refine RX_draw rfl ?_ | refine RX_skip ?_ | refine RX_exit ?_ | refine RX_ret ?_); try (simp only [go_sem, Int.reduceToNat, Nat.reducePow, Int.reduceEq, Int.reduceNe, Int.reduceLT, Int.reduceLE, Nat.reduceAdd, Nat.reduceLeDiff, ↓reduceIte, Nat.reduceLT, Nat.reduceMul, Nat.reduceSub, reduceCtorEq, frzLoc, rowCells, vAppM, beq_iff_eq, bne_iff_ne, bne_self_eq_false, beq_self_eq_true, beq_true, beq_false, I, B, w, vf43_res, vf43_keep, w0, a0, a3, a6, a9, a12, a13, a14, a15, a16, a17]))))))
  (refine RL_head ?_; (simp only [go_sem, Int.reduceToNat, Nat.reducePow, Int.reduceEq, Int.reduceNe, Int.reduceLT, Int.reduceLE, Nat.reduceAdd, Nat.reduceLeDiff, ↓reduceIte, Nat.reduceLT, Nat.reduceMul, Nat.reduceSub, reduceCtorEq, frzLoc, rowCells, vAppM, beq_iff_eq, bne_iff_ne, bne_self_eq_false, beq_self_eq_true, beq_true, beq_false, I, B, w, St.head, forget, vf43K0, RLK_some, vf43_res, vf43_keep, w1, a0, a3, a6, a9, a12, a13, a14, a15, a16, a17]); refine vf43L0_go ?_; ((repeat (first
    | refine RX_seq ?_
    | refine RX_block ?_
    | ((first | refine RX_reg ?_ | refine RX_cond' ?_ | refine RX_draw0 ?_ | refine RX_draw rfl ?_ | refine RX_skip ?_ | refine RX_exit ?_ | refine RX_ret ?_); try (simp only [go_sem, Int.reduceToNat, Nat.reducePow, Int.reduceEq, Int.reduceNe, Int.reduceLT, Int.reduceLE, Nat.reduceAdd, Nat.reduceLeDiff, ↓reduceIte, Nat.reduceLT, Nat.reduceMul, Nat.reduceSub, reduceCtorEq, frzLoc, rowCells, vAppM, beq_iff_eq, bne_iff_ne, bne_self_eq_false, beq_self_eq_true, beq_true, beq_false, I, B, w, vf43_res, vf43_keep, w1, a0, a3, a6, a9, a12, a13, a14, a15, a16, a17]))))))
  (refine RL_head ?_; (simp only [go_sem, Int.reduceToNat, Nat.reducePow, Int.reduceEq, Int.reduceNe, Int.reduceLT, Int.reduceLE, Nat.reduceAdd, Nat.reduceLeDiff, ↓reduceIte, Nat.reduceLT, Nat.reduceMul, Nat.reduceSub, reduceCtorEq, frzLoc, rowCells, vAppM, beq_iff_eq, bne_iff_ne, bne_self_eq_false, beq_self_eq_true, beq_true, beq_false, I, B, w, St.head, forget, vf43K0, RLK_some, vf43_res, vf43_keep, w2, a0, a3, a6, a9, a12, a13, a14, a15, a16, a17]); refine vf43L0_go ?_; ((repeat (first
    | refine RX_seq ?_
    | refine RX_block ?_
    | ((first | refine RX_reg ?_ | refine RX_cond' ?_ | refine RX_draw0 ?_ | refine RX_draw rfl ?_ | refine RX_skip ?_ | refine RX_exit ?_ | refine RX_ret ?_); try (simp only [go_sem, Int.reduceToNat, Nat.reducePow, Int.reduceEq, Int.reduceNe, Int.reduceLT, Int.reduceLE, Nat.reduceAdd, Nat.reduceLeDiff, ↓reduceIte, Nat.reduceLT, Nat.reduceMul, Nat.reduceSub, reduceCtorEq, frzLoc, rowCells, vAppM, beq_iff_eq, bne_iff_ne, bne_self_eq_false, beq_self_eq_true, beq_true, beq_false, I, B, w, vf43_res, vf43_keep, w2, a0, a3, a6, a9, a12, a13, a14, a15, a16, a17]))))))
  (refine RL_head ?_; (simp only [go_sem, Int.reduceToNat, Nat.reducePow, Int.reduceEq, Int.reduceNe, Int.reduceLT, Int.reduceLE, Nat.reduceAdd, Nat.reduceLeDiff, ↓reduceIte, Nat.reduceLT, Nat.reduceMul, Nat.reduceSub, reduceCtorEq, frzLoc, rowCells, vAppM, beq_iff_eq, bne_iff_ne, bne_self_eq_false, beq_self_eq_true, beq_true, beq_false, I, B, w, St.head, forget, vf43K0, RLK_some, vf43_res, vf43_keep, w3, a0, a3, a6, a9, a12, a13, a14, a15, a16, a17]); refine vf43L0_go ?_; ((repeat (first
    | refine RX_seq ?_
    | refine RX_block ?_
    | ((first | refine RX_reg ?_ | refine RX_cond' ?_ | refine RX_draw0 ?_ | refine RX_draw rfl ?_ | refine RX_skip ?_ | refine RX_exit ?_ | refine RX_ret ?_); try (simp only [go_sem, Int.reduceToNat, Nat.reducePow, Int.reduceEq, Int.reduceNe, Int.reduceLT, Int.reduceLE, Nat.reduceAdd, Nat.reduceLeDiff, ↓reduceIte, Nat.reduceLT, Nat.reduceMul, Nat.reduceSub, reduceCtorEq, frzLoc, rowCells, vAppM, beq_iff_eq, bne_iff_ne, bne_self_eq_false, beq_self_eq_true, beq_true, beq_false, I, B, w, vf43_res, vf43_keep, w3, a0, a3, a6, a9, a12, a13, a14, a15, a16, a17]))))))
  (refine RL_head ?_; (simp only [go_sem, Int.reduceToNat, Nat.reducePow, Int.reduceEq, Int.reduceNe, Int.reduceLT, Int.reduceLE, Nat.reduceAdd, Nat.reduceLeDiff, ↓reduceIte, Nat.reduceLT, Nat.reduceMul, Nat.reduceSub, reduceCtorEq, frzLoc, rowCells, vAppM, beq_iff_eq, bne_iff_ne, bne_self_eq_false, beq_self_eq_true, beq_true, beq_false, I, B, w, St.head, forget, vf43K0, RLK_some, vf43_res, vf43_keep, a0, a3, a6, a9, a12, a13, a14, a15, a16, a17]); refine vf43L0_go ?_; ((repeat (first
    | refine RX_seq ?_
    | refine RX_block ?_
    | ((first | refine RX_reg ?_ | refine RX_cond' ?_ | refine RX_draw0 ?_ | refine RX_draw rfl ?_ | refine RX_skip ?_ | refine RX_exit ?_ | refine RX_ret ?_); try (simp only [go_sem, Int.reduceToNat, Nat.reducePow, Int.reduceEq, Int.reduceNe, Int.reduceLT, Int.reduceLE, Nat.reduceAdd, Nat.reduceLeDiff, ↓reduceIte, Nat.reduceLT, Nat.reduceMul, Nat.reduceSub, reduceCtorEq, frzLoc, rowCells, vAppM, beq_iff_eq, bne_iff_ne, bne_self_eq_false, beq_self_eq_true, beq_true, beq_false, I, B, w, vf43_res, vf43_keep, a0, a3, a6, a9, a12, a13, a14, a15, a16, a17]))))))
  refine RX_loop ?_
  (refine RL_head ?_; (simp only [go_sem, Int.reduceToNat, Nat.reducePow, Int.reduceEq, Int.reduceNe, Int.reduceLT, Int.reduceLE, Nat.reduceAdd, Nat.reduceLeDiff, ↓reduceIte, Nat.reduceLT, Nat.reduceMul, Nat.reduceSub, reduceCtorEq, frzLoc, rowCells, vAppM, beq_iff_eq, bne_iff_ne, bne_self_eq_false, beq_self_eq_true, beq_true, beq_false, I, B, w, St.head, forget, vf43K1, RLK_some, vf43_res, vf43_keep, w0, a0, a3, a6, a9, a12, a13, a14, a15, a16, a17]); refine vf43L1_go ?_; ((repeat (first
    | refine RX_seq ?_
    | refine RX_block ?_
    | ((first | refine RX_reg ?_ | refine RX_cond' ?_ | refine RX_draw0 ?_ | refine RX_draw rfl ?_ | refine RX_skip ?_ | refine RX_exit ?_ | refine RX_ret ?_); try (simp only [go_sem, Int.reduceToNat, Nat.reducePow, Int.reduceEq, Int.reduceNe, Int.reduceLT, Int.reduceLE, Nat.reduceAdd, Nat.reduceLeDiff, ↓reduceIte, Nat.reduceLT, Nat.reduceMul, Nat.reduceSub, reduceCtorEq, frzLoc, rowCells, vAppM, beq_iff_eq, bne_iff_ne, bne_self_eq_false, beq_self_eq_true, beq_true, beq_false, I, B, w, vf43_res, vf43_keep, w0, a0, a3, a6, a9, a12, a13, a14, a15, a16, a17]))))))
  (refine RL_head ?_; (simp only [go_sem, Int.reduceToNat, Nat.reducePow, Int.reduceEq, Int.reduceNe, Int.reduceLT, Int.reduceLE, Nat.reduceAdd, Nat.reduceLeDiff, ↓reduceIte, Nat.reduceLT, Nat.reduceMul, Nat.reduceSub, reduceCtorEq, frzLoc, rowCells, vAppM, beq_iff_eq, bne_iff_ne, bne_self_eq_false, beq_self_eq_true, beq_true, beq_false, I, B, w, St.head, forget, vf43K1, RLK_some, vf43_res, vf43_keep, w1, a0, a3, a6, a9, a12, a13, a14, a15, a16, a17]); refine vf43L1_go ?_; ((repeat (first
    | refine RX_seq ?_
    | refine RX_block ?_
    | ((first | refine RX_reg ?_ | refine RX_cond' ?_ | refine RX_draw0 ?_ | refine RX_draw rfl ?_ | refine RX_skip ?_ | refine RX_exit ?_ | refine RX_ret ?_); try (simp only [go_sem, Int.reduceToNat, Nat.reducePow, Int.reduceEq, Int.reduceNe, Int.reduceLT, Int.reduceLE, Nat.reduceAdd, Nat.reduceLeDiff, ↓reduceIte, Nat.reduceLT, Nat.reduceMul, Nat.reduceSub, reduceCtorEq, frzLoc, rowCells, vAppM, beq_iff_eq, bne_iff_ne, bne_self_eq_false, beq_self_eq_true, beq_true, beq_false, I, B, w, vf43_res, vf43_keep, w1, a0, a3, a6, a9, a12, a13, a14, a15, a16, a17]))))))
  (refine RL_head ?_; (simp only [go_sem, Int.reduceToNat, Nat.reducePow, Int.reduceEq, Int.reduceNe, Int.reduceLT, Int.reduceLE, Nat.reduceAdd, Nat.reduceLeDiff, ↓reduceIte, Nat.reduceLT, Nat.reduceMul, Nat.reduceSub, reduceCtorEq, frzLoc, rowCells, vAppM, beq_iff_eq, bne_iff_ne, bne_self_eq_false, beq_self_eq_true, beq_true, beq_false, I, B, w, St.head, forget, vf43K1, RLK_some, vf43_res, vf43_keep, w2, a0, a3, a6, a9, a12, a13, a14, a15, a16, a17]); refine vf43L1_go ?_; ((repeat (first
    | refine RX_seq ?_
    | refine RX_block ?_
    | ((first | refine RX_reg ?_ | refine RX_cond' ?_ | refine RX_draw0 ?_ | refine RX_draw rfl ?_ | refine RX_skip ?_ | refine RX_exit ?_ | refine RX_ret ?_); try (simp only [go_sem, Int.reduceToNat, Nat.reducePow, Int.reduceEq, Int.reduceNe, Int.reduceLT, Int.reduceLE, Nat.reduceAdd, Nat.reduceLeDiff, ↓reduceIte, Nat.reduceLT, Nat.reduceMul, Nat.reduceSub, reduceCtorEq, frzLoc, rowCells, vAppM, beq_iff_eq, bne_iff_ne, bne_self_eq_false, beq_self_eq_true, beq_true, beq_false, I, B, w, vf43_res, vf43_keep, w2, a0, a3, a6, a9, a12, a13, a14, a15, a16, a17]))))))
  (refine RL_head ?_; (simp only [go_sem, Int.reduceToNat, Nat.reducePow, Int.reduceEq, Int.reduceNe, Int.reduceLT, Int.reduceLE, Nat.reduceAdd, Nat.reduceLeDiff, ↓reduceIte, Nat.reduceLT, Nat.reduceMul, Nat.reduceSub, reduceCtorEq, frzLoc, rowCells, vAppM, beq_iff_eq, bne_iff_ne, bne_self_eq_false, beq_self_eq_true, beq_true, beq_false, I, B, w, St.head, forget, vf43K1, RLK_some, vf43_res, vf43_keep, w3, a0, a3, a6, a9, a12, a13, a14, a15, a16, a17]); refine vf43L1_go ?_; ((repeat (first
    | refine RX_seq ?_
    | refine RX_block ?_
    | ((first | refine RX_reg ?_ | refine RX_cond' ?_ | refine RX_draw0 ?_ | refine RX_draw rfl ?_ | refine RX_skip ?_ | refine RX_exit ?_ | refine RX_ret ?_); try (simp only [go_sem, Int.reduceToNat, Nat.reducePow, Int.reduceEq, Int.reduceNe, Int.reduceLT, Int.reduceLE, Nat.reduceAdd, Nat.reduceLeDiff, ↓reduceIte, Nat.reduceLT, Nat.reduceMul, Nat.reduceSub, reduceCtorEq, frzLoc, rowCells, vAppM, beq_iff_eq, bne_iff_ne, bne_self_eq_false, beq_self_eq_true, beq_true, beq_false, I, B, w, vf43_res, vf43_keep, w3, a0, a3, a6, a9, a12, a13, a14, a15, a16, a17]))))))
  (refine RL_head ?_; (simp only [go_sem, Int.reduceToNat, Nat.reducePow, Int.reduceEq, Int.reduceNe, Int.reduceLT, Int.reduceLE, Nat.reduceAdd, Nat.reduceLeDiff, ↓reduceIte, Nat.reduceLT, Nat.reduceMul, Nat.reduceSub, reduceCtorEq, frzLoc, rowCells, vAppM, beq_iff_eq, bne_iff_ne, bne_self_eq_false, beq_self_eq_true, beq_true, beq_false, I, B, w, St.head, forget, vf43K1, RLK_some, vf43_res, vf43_keep, w4, a0, a3, a6, a9, a12, a13, a14, a15, a16, a17]); refine vf43L1_go ?_; ((repeat (first
    | refine RX_seq ?_
    | refine RX_block ?_
    | ((first | refine RX_reg ?_ | refine RX_cond' ?_ | refine RX_draw0 ?_ | refine RX_draw rfl ?_ | refine RX_skip ?_ | refine RX_exit ?_ | refine RX_ret ?_); try (simp only [go_sem, Int.reduceToNat, Nat.reducePow, Int.reduceEq, Int.reduceNe, Int.reduceLT, Int.reduceLE, Nat.reduceAdd, Nat.reduceLeDiff, ↓reduceIte, Nat.reduceLT, Nat.reduceMul, Nat.reduceSub, reduceCtorEq, frzLoc, rowCells, vAppM, beq_iff_eq, bne_iff_ne, bne_self_eq_false, beq_self_eq_true, beq_true, beq_false, I, B, w, vf43_res, vf43_keep, w4, a0, a3, a6, a9, a12, a13, a14, a15, a16, a17]))))))
  (refine RL_head ?_; (simp only [go_sem, Int.reduceToNat, Nat.reducePow, Int.reduceEq, Int.reduceNe, Int.reduceLT, Int.reduceLE, Nat.reduceAdd, Nat.reduceLeDiff, ↓reduceIte, Nat.reduceLT, Nat.reduceMul, Nat.reduceSub, reduceCtorEq, frzLoc, rowCells, vAppM, beq_iff_eq, bne_iff_ne, bne_self_eq_false, beq_self_eq_true, beq_true, beq_false, I, B, w, St.head, forget, vf43K1, RLK_some, vf43_res, vf43_keep, w5, a0, a3, a6, a9, a12, a13, a14, a15, a16, a17]); refine vf43L1_go ?_; ((repeat (first
    | refine RX_seq ?_
    | refine RX_block ?_
    | ((first | refine RX_reg ?_ | refine RX_cond' ?_ | refine RX_draw0 ?_ | refine RX_draw rfl ?_ | refine RX_skip ?_ | refine RX_exit ?_ | refine RX_ret ?_); try (simp only [go_sem, Int.reduceToNat, Nat.reducePow, Int.reduceEq, Int.reduceNe, Int.reduceLT, Int.reduceLE, Nat.reduceAdd, Nat.reduceLeDiff, ↓reduceIte, Nat.reduceLT, Nat.reduceMul, Nat.reduceSub, reduceCtorEq, frzLoc, rowCells, vAppM, beq_iff_eq, bne_iff_ne, bne_self_eq_false, beq_self_eq_true, beq_true, beq_false, I, B, w, vf43_res, vf43_keep, w5, a0, a3, a6, a9, a12, a13, a14, a15, a16, a17]))))))
  (refine RL_head ?_; (simp only [go_sem, Int.reduceToNat, Nat.reducePow, Int.reduceEq, Int.reduceNe, Int.reduceLT, Int.reduceLE, Nat.reduceAdd, Nat.reduceLeDiff, ↓reduceIte, Nat.reduceLT, Nat.reduceMul, Nat.reduceSub, reduceCtorEq, frzLoc, rowCells, vAppM, beq_iff_eq, bne_iff_ne, bne_self_eq_false, beq_self_eq_true, beq_true, beq_false, I, B, w, St.head, forget, vf43K1, RLK_some, vf43_res, vf43_keep, a0, a3, a6, a9, a12, a13, a14, a15, a16, a17]); refine vf43L1_go ?_; ((repeat (first
    | refine RX_seq ?_
    | refine RX_block ?_
    | ((first | refine RX_reg ?_ | refine RX_cond' ?_ | refine RX_draw0 ?_ | refine RX_draw rfl ?_ | refine RX_skip ?_ | refine RX_exit ?_ | refine RX_ret ?_); try (simp only [go_sem, Int.reduceToNat, Nat.reducePow, Int.reduceEq, Int.reduceNe, Int.reduceLT, Int.reduceLE, Nat.reduceAdd, Nat.reduceLeDiff, ↓reduceIte, Nat.reduceLT, Nat.reduceMul, Nat.reduceSub, reduceCtorEq, frzLoc, rowCells, vAppM, beq_iff_eq, bne_iff_ne, bne_self_eq_false, beq_self_eq_true, beq_true, beq_false, I, B, w, vf43_res, vf43_keep, a0, a3, a6, a9, a12, a13, a14, a15, a16, a17]))))))
  clear a0 a3 a6 a9 a12 a13 a14 a15 a16 a17
  refine RX_loopN (n := 3) rfl ?_
  have hinit : ∃ (m : Nat), ((s18.2 = true ∧ rbV l = rb0) ∨ (s18.2 = false ∧ s18.1 = 18 ∧ 18 + m = l.length ∧ (∀ (j : Nat) (p : Tm), j < 18 → l[j]? = some p → p.op = 1) ∧ rbC l = chk v0 (uw v1) (uw v2) v3 (uw v4) (uw v5) v6 (uw v7) (uw v8) v9 (uw v10) (uw v11) v12 v13 v14 v15 v16 v17 ∧ (rbOk l → rbC l = 0 → rbV l = .tup [.agg [.d (I v0), .d (U (uw v1)), .d (U (uw v2)), .d (I v3), .d (U (uw v4)), .d (U (uw v5)), .d (I v6), .d (U (uw v7)), .d (U (uw v8)), .d (I v9), .d (U (uw v10)), .d (U (uw v11)), .d (I v12), .d (I v13), .d (I v14), .d (I v15), .d (I v16), .d (I v17)], .d (.lit (.string (rbS l))), .d (B true)]))) := by
    rcases hok with ⟨h1, h2⟩ | ⟨h1, h2, h3⟩
    · exact ⟨0, .inl ⟨h1, rbV_bad h2⟩⟩
    · rw [h1] at hv0 hv1 hv2 hv3 hv4 hv5 hv6 hv7 hv8 hv9 hv10 hv11 hv12 hv13 hv14 hv15 hv16 hv17
      refine ⟨l.length - 18, .inr ⟨by rw [h1], by rw [h1], by omega, fun j p hj hp => ?_, ?_, fun k1 k2 => ?_⟩⟩
      · have := h3 j hj
        rwa [List.getD_eq_getElem?_getD, hp] at this
      · simp only [rbC, ← hv0 rfl, ← hv1 rfl, ← hv2 rfl, ← hv3 rfl, ← hv4 rfl, ← hv5 rfl, ← hv6 rfl, ← hv7 rfl, ← hv8 rfl, ← hv9 rfl, ← hv10 rfl, ← hv11 rfl, ← hv12 rfl, ← hv13 rfl, ← hv14 rfl, ← hv15 rfl, ← hv16 rfl, ← hv17 rfl]
      · unfold rbV
        rw [if_pos ⟨k1, k2⟩]
        simp only [← hv0 rfl, ← hv1 rfl, ← hv2 rfl, ← hv3 rfl, ← hv4 rfl, ← hv5 rfl, ← hv6 rfl, ← hv7 rfl, ← hv8 rfl, ← hv9 rfl, ← hv10 rfl, ← hv11 rfl, ← hv12 rfl, ← hv13 rfl, ← hv14 rfl, ← hv15 rfl, ← hv16 rfl, ← hv17 rfl]
  clear hok hv0 hv1 hv2 hv3 hv4 hv5 hv6 hv7 hv8 hv9 hv10 hv11 hv12 hv13 hv14 hv15 hv16 hv17
  obtain ⟨m0, hinit⟩ := hinit
  obtain ⟨n18, b18⟩ := s18
  simp only at hinit
  refine RL_ind (fun m st => ∃ (n : Nat) (b : Bool) (v : V) (live : List Nat) (gn : Nat) (rows : List (List D)), Acc 1 v live rows ∧ rows.length ≤ 1000 ∧
      ((b = true ∧ rbV l = rb0) ∨ (b = false ∧ 18 ≤ n ∧ n ≤ 34 ∧ n + m = l.length ∧ (∀ (j : Nat) (p : Tm), j < n → l[j]? = some p → p.op = 1 ∧ (18 ≤ j → rbB p)) ∧ rows = byR ((l.take n).drop 18) ∧ rbC l = chk v0 (uw v1) (uw v2) v3 (uw v4) (uw v5) v6 (uw v7) (uw v8) v9 (uw v10) (uw v11) v12 v13 v14 v15 v16 v17 ∧ (rbOk l → rbC l = 0 → rbV l = .tup [.agg [.d (I v0), .d (U (uw v1)), .d (U (uw v2)), .d (I v3), .d (U (uw v4)), .d (U (uw v5)), .d (I v6), .d (U (uw v7)), .d (U (uw v8)), .d (I v9), .d (U (uw v10)), .d (U (uw v11)), .d (I v12), .d (I v13), .d (I v14), .d (I v15), .d (I v16), .d (I v17)], .d (.lit (.string (rbS l))), .d (B true)]))) ∧
      At vf43K2 3 st ((.d (.sl (l.map Tm.row)) :: .any :: .ptr 0 0 :: .any :: .any :: .ptr 1 0 :: .ptr 2 0 :: .any :: .any :: .any :: .any :: v :: .any :: .any :: .any :: .any :: .any :: .any :: .any :: .any :: .any :: .any :: .any :: .any :: .any :: .any :: .any :: .any :: .any :: .any :: .any :: .any :: .any :: .any :: .any :: .any :: .any :: .any :: .any :: .any :: .any :: .any :: .any :: .any :: .any :: .any :: .any :: .any :: .any :: .any :: .any :: .any :: .any :: .any :: .any :: .any :: .any :: .any :: .any :: .any :: .any :: .any :: .any :: .any :: .any :: .any :: .any :: .any :: .any :: .any :: .any :: .any :: .any :: .any :: .any :: .any :: .any :: .any :: .any :: .any :: .any :: .any :: .any :: .any :: .any :: .any :: .any :: .any :: .any :: .any :: .any :: .any :: .any :: .any :: .any :: .any :: .any :: .any :: .any :: .any :: .any :: .any :: .any :: .any :: .any :: .any :: [])) [[.d (I 0), .d (U 0), .d (U 0), .d (I 0), .d (U 0), .d (U 0), .d (I 0), .d (U 0), .d (U 0), .d (I 0), .d (U 0), .d (U 0), .d (I 0), .d (I 0), .d (I 0), .d (I 0), .d (I 0), .d (I 0)], [.d (.sl (l.map Tm.row)), .d (I (n : Nat)), .d (B b)], [.d (I v0), .d (U (uw v1)), .d (U (uw v2)), .d (I v3), .d (U (uw v4)), .d (U (uw v5)), .d (I v6), .d (U (uw v7)), .d (U (uw v8)), .d (I v9), .d (U (uw v10)), .d (U (uw v11)), .d (I v12), .d (I v13), .d (I v14), .d (I v15), .d (I v16), .d (I v17)]] live gn 0) ?_ m0 _
    ⟨n18, b18, .nil, [], 0, [], .inl ⟨rfl, rfl, rfl⟩, by simp, ?_, rfl, rfl, rfl, rfl, rfl, rfl⟩
  case refine_2 =>
    rcases hinit with h | ⟨h1, h2, h3, h4, h5⟩
    · exact .inl h
    · subst h1 h2
      exact .inr ⟨rfl, by omega, by omega, h3, fun j p hj hp => ⟨h4 j p hj hp, fun h => absurd h (by omega)⟩, by rw [byR, List.drop_eq_nil_of_le (by rw [List.length_take]; omega)]; rfl, h5⟩
  clear hinit
  rintro m st ⟨n, b, v, live, gn, rows, hv, hrl, hph, hat⟩ ih
  have hat0 := hat
  clear hat
  rcases hph with ⟨rfl, hbad⟩ | ⟨rfl, hn18, hn34, hnm, hgood, hrows, hC, hV⟩
  · rw [hbad]
    simp only [rb0]
    clear ih
    rcases hv with ⟨rfl, rfl, _⟩ | ⟨g, rfl, rfl⟩ <;>
    · refine RL_at hat0 rfl rfl (vf43L2_go ?_)
      (repeat (first
    | refine RX_seq ?_
    | refine RX_block ?_
    | ((first | refine RX_reg ?_ | refine RX_cond' ?_ | refine RX_draw0 ?_ | refine RX_draw rfl ?_ | refine RX_skip ?_ | refine RX_exit ?_ | refine RX_ret ?_); try (simp only [go_sem, Int.reduceToNat, Nat.reducePow, Int.reduceEq, Int.reduceNe, Int.reduceLT, Int.reduceLE, Nat.reduceAdd, Nat.reduceLeDiff, ↓reduceIte, Nat.reduceLT, Nat.reduceMul, Nat.reduceSub, reduceCtorEq, frzLoc, rowCells, vAppM, beq_iff_eq, bne_iff_ne, bne_self_eq_false, beq_self_eq_true, beq_true, beq_false, I, B, w, vf43_res, vf43_keep]))))
  · have hrn : rows.length = n - 18 := by rw [hrows, byR, List.length_map, List.length_drop, List.length_take]; omega
    cases m with
    | zero =>
      have h1 : ¬ n < l.length := by omega
      have hrb : rbOk l := by
        refine ⟨by omega, by omega, fun t ht => ?_, fun t ht => ?_⟩
        · obtain ⟨j, hj⟩ := List.getElem?_of_mem ht
          exact (hgood j t (by have := (List.getElem?_eq_some_iff.1 hj).1; omega) hj).1
        · obtain ⟨j, hj⟩ := List.getElem?_of_mem ht
          rw [List.getElem?_drop] at hj
          exact (hgood (18 + j) t (by have := (List.getElem?_eq_some_iff.1 hj).1; omega) hj).2 (by omega)
      rw [List.take_of_length_le (by omega)] at hrows
      have hby := byR_bytes (ts := l.drop 18)
      rw [← hrows] at hby
      have hS : rbS l = ⟨((l.drop 18).map fun t => UInt8.ofNat t.val.toNat).toArray⟩ := rfl
      have h88 := e88 v0 (uw v1) (uw v2) v3 (uw v4) (uw v5) v6 (uw v7) (uw v8) v9 (uw v10) (uw v11) v12 v13 v14 v15 v16 v17
      clear ih hgood
      by_cases h0 : chk v0 (uw v1) (uw v2) v3 (uw v4) (uw v5) v6 (uw v7) (uw v8) v9 (uw v10) (uw v11) v12 v13 v14 v15 v16 v17 = 0
      · rw [hV hrb (by rw [hC]; exact h0), hS]
        rw [h0] at h88
        generalize (l.drop 18).map (fun t => UInt8.ofNat t.val.toNat) = bys at *
        rcases hv with ⟨rfl, rfl, hr0⟩ | ⟨g, rfl, rfl⟩
        · have hb0 : bys = [] := by rw [hr0] at hby; simp only [bytesOf, Option.some.injEq] at hby; exact hby.symm
          subst hb0
          refine RL_at hat0 rfl rfl (vf43L2_go ?_)
          (repeat (first
    | refine RX_seq ?_
    | refine RX_block ?_
    | ((first | refine RX_reg ?_ | refine RX_cond' ?_ | refine RX_draw0 ?_ | refine RX_draw rfl ?_ | refine RX_skip ?_ | refine RX_exit ?_ | refine RX_ret ?_); try (simp only [go_sem, Int.reduceToNat, Nat.reducePow, Int.reduceEq, Int.reduceNe, Int.reduceLT, Int.reduceLE, Nat.reduceAdd, Nat.reduceLeDiff, ↓reduceIte, Nat.reduceLT, Nat.reduceMul, Nat.reduceSub, reduceCtorEq, frzLoc, rowCells, vAppM, beq_iff_eq, bne_iff_ne, bne_self_eq_false, beq_self_eq_true, beq_true, beq_false, I, B, w, vf43_res, vf43_keep, List.length_map, h1, h88, ibne, vRows, bytesOf]))))
        · refine RL_at hat0 rfl rfl (vf43L2_go ?_)
          (repeat (first
    | refine RX_seq ?_
    | refine RX_block ?_
    | ((first | refine RX_reg ?_ | refine RX_cond' ?_ | refine RX_draw0 ?_ | refine RX_draw rfl ?_ | refine RX_skip ?_ | refine RX_exit ?_ | refine RX_ret ?_); try (simp only [go_sem, Int.reduceToNat, Nat.reducePow, Int.reduceEq, Int.reduceNe, Int.reduceLT, Int.reduceLE, Nat.reduceAdd, Nat.reduceLeDiff, ↓reduceIte, Nat.reduceLT, Nat.reduceMul, Nat.reduceSub, reduceCtorEq, frzLoc, rowCells, vAppM, beq_iff_eq, bne_iff_ne, bne_self_eq_false, beq_self_eq_true, beq_true, beq_false, I, B, w, vf43_res, vf43_keep, List.length_map, h1, h88, ibne, vRows, hby]))))
      · have hV0 : rbV l = rb0 := by
          unfold rbV
          rw [if_neg]
          rintro ⟨_, h⟩
          rw [hC] at h
          exact h0 h
        rw [hV0]
        simp only [rb0]
        rcases hv with ⟨rfl, rfl, hr0⟩ | ⟨g, rfl, rfl⟩
        · refine RL_at hat0 rfl rfl (vf43L2_go ?_)
          (repeat (first
    | refine RX_seq ?_
    | refine RX_block ?_
    | ((first | refine RX_reg ?_ | refine RX_cond' ?_ | refine RX_draw0 ?_ | refine RX_draw rfl ?_ | refine RX_skip ?_ | refine RX_exit ?_ | refine RX_ret ?_); try (simp only [go_sem, Int.reduceToNat, Nat.reducePow, Int.reduceEq, Int.reduceNe, Int.reduceLT, Int.reduceLE, Nat.reduceAdd, Nat.reduceLeDiff, ↓reduceIte, Nat.reduceLT, Nat.reduceMul, Nat.reduceSub, reduceCtorEq, frzLoc, rowCells, vAppM, beq_iff_eq, bne_iff_ne, bne_self_eq_false, beq_self_eq_true, beq_true, beq_false, I, B, w, vf43_res, vf43_keep, List.length_map, h1, h88, ibne, h0]))))
        · refine RL_at hat0 rfl rfl (vf43L2_go ?_)
          (repeat (first
    | refine RX_seq ?_
    | refine RX_block ?_
    | ((first | refine RX_reg ?_ | refine RX_cond' ?_ | refine RX_draw0 ?_ | refine RX_draw rfl ?_ | refine RX_skip ?_ | refine RX_exit ?_ | refine RX_ret ?_); try (simp only [go_sem, Int.reduceToNat, Nat.reducePow, Int.reduceEq, Int.reduceNe, Int.reduceLT, Int.reduceLE, Nat.reduceAdd, Nat.reduceLeDiff, ↓reduceIte, Nat.reduceLT, Nat.reduceMul, Nat.reduceSub, reduceCtorEq, frzLoc, rowCells, vAppM, beq_iff_eq, bne_iff_ne, bne_self_eq_false, beq_self_eq_true, beq_true, beq_false, I, B, w, vf43_res, vf43_keep, List.length_map, h1, h88, ibne, h0]))))
    | succ m =>
      have h1 : n < l.length := by omega
      obtain ⟨p, hp⟩ : ∃ p, l[n]? = some p := ⟨_, List.getElem?_eq_getElem h1⟩
      have hrp : (l.map Tm.row)[n]? = some [I p.op, I p.val, .sl (p.args.map Tm.row)] := by rw [List.getElem?_map, hp]; simp [Tm.row_eq]
      have q : CV VP 87 [.ptr 1 0] [[.d (I 0), .d (U 0), .d (U 0), .d (I 0), .d (U 0), .d (U 0), .d (I 0), .d (U 0), .d (U 0), .d (I 0), .d (U 0), .d (U 0), .d (I 0), .d (I 0), .d (I 0), .d (I 0), .d (I 0), .d (I 0)], [.d (.sl (l.map Tm.row)), .d (I (n : Nat)), .d (B false)], [.d (I v0), .d (U (uw v1)), .d (U (uw v2)), .d (I v3), .d (U (uw v4)), .d (U (uw v5)), .d (I v6), .d (U (uw v7)), .d (U (uw v8)), .d (I v9), .d (U (uw v10)), .d (U (uw v11)), .d (I v12), .d (I v13), .d (I v14), .d (I v15), .d (I v16), .d (I v17)]] = some ⟨.d (I p.val), [[.d (I 0), .d (U 0), .d (U 0), .d (I 0), .d (U 0), .d (U 0), .d (I 0), .d (U 0), .d (U 0), .d (I 0), .d (U 0), .d (U 0), .d (I 0), .d (I 0), .d (I 0), .d (I 0), .d (I 0), .d (I 0)], [.d (.sl (l.map Tm.row)), .d (I ((n + 1 : Nat) : Int)), .d (B (decide (¬ p.op = 1)))], [.d (I v0), .d (U (uw v1)), .d (U (uw v2)), .d (I v3), .d (U (uw v4)), .d (U (uw v5)), .d (I v6), .d (U (uw v7)), .d (U (uw v8)), .d (I v9), .d (U (uw v10)), .d (U (uw v11)), .d (I v12), .d (I v13), .d (I v14), .d (I v15), .d (I v16), .d (I v17)]], [], 0⟩ :=
        e87g (by omega) (by simpa using h1) hrp 1 _ (ctx1 [.d (I 0), .d (U 0), .d (U 0), .d (I 0), .d (U 0), .d (U 0), .d (I 0), .d (U 0), .d (U 0), .d (I 0), .d (U 0), .d (U 0), .d (I 0), .d (I 0), .d (I 0), .d (I 0), .d (I 0), .d (I 0)] [.d (I v0), .d (U (uw v1)), .d (U (uw v2)), .d (I v3), .d (U (uw v4)), .d (U (uw v5)), .d (I v6), .d (U (uw v7)), .d (U (uw v8)), .d (I v9), .d (U (uw v10)), .d (U (uw v11)), .d (I v12), .d (I v13), .d (I v14), .d (I v15), .d (I v16), .d (I v17)] rfl rfl rfl rfl)
      have bad : ¬ (p.op = 1 ∧ rbB p ∧ n < 34) → rbV l = rb0 := fun h => rbV_bad fun k => h ⟨k.2.2.1 p (List.mem_of_getElem? hp), k.2.2.2 p (List.mem_of_getElem? (i := n - 18) (by rw [List.getElem?_drop, show 18 + (n - 18) = n by omega]; exact hp)), by have := k.2.1; omega⟩
      have toBad := fun (h : rbV l = rb0) v live gn rows st (hv : Acc 1 v live rows) (hl : rows.length ≤ 1000) hat => ih m st (Nat.lt_succ_self m) ⟨n + 1, true, v, live, gn, rows, hv, hl, .inl ⟨rfl, h⟩, hat⟩
      have toGood := fun (h : p.op = 1 ∧ rbB p ∧ n < 34) v live gn st (hv : Acc 1 v live (byR ((l.take (n + 1)).drop 18))) hat => ih m st (Nat.lt_succ_self m) ⟨n + 1, false, v, live, gn, _, hv, by rw [byR, List.length_map, List.length_drop, List.length_take]; omega, .inr ⟨rfl, by omega, by omega, by omega, fun j q hj hq => by
        rcases Nat.lt_or_ge j n with hji | hji
        · exact hgood j q hji hq
        · obtain rfl : j = n := by omega
          rw [hp] at hq; cases hq; exact ⟨h.1, fun _ => h.2.1⟩, rfl, hC, hV⟩, hat⟩
      clear ih hgood hrp hC hV
      have hlen1 : rows.length + 1 ≤ 4294967296 := by omega
      have hle2 : (rows ++ [[D.lit (.int .u8 (IntKind.u8.wrap p.val))]]).length ≤ 1000 := by rw [List.length_append]; simp; omega
      by_cases h2 : p.op = 1
      case neg =>
        have hb := toBad (bad fun h => h2 h.1)
        rcases hv with ⟨rfl, rfl, hr0⟩ | ⟨g, rfl, rfl⟩
        · refine RL_at hat0 rfl rfl (vf43L2_go ?_)
          (repeat (first
    | refine RX_seq ?_
    | refine RX_block ?_
    | ((first | refine RX_reg ?_ | refine RX_cond' ?_ | refine RX_draw0 ?_ | refine RX_draw rfl ?_ | refine RX_skip ?_ | refine RX_exit ?_ | refine RX_ret ?_); try (simp only [go_sem, Int.reduceToNat, Nat.reducePow, Int.reduceEq, Int.reduceNe, Int.reduceLT, Int.reduceLE, Nat.reduceAdd, Nat.reduceLeDiff, ↓reduceIte, Nat.reduceLT, Nat.reduceMul, Nat.reduceSub, reduceCtorEq, frzLoc, rowCells, vAppM, beq_iff_eq, bne_iff_ne, bne_self_eq_false, beq_self_eq_true, beq_true, beq_false, I, B, w, vf43_res, vf43_keep, List.length_map, h1, q, decide_not, h2]))))
          exact hb _ _ _ _ _ (.inr ⟨_, rfl, rfl⟩) (by simp) ⟨rfl, rfl, rfl, rfl, rfl, rfl⟩
        · refine RL_at hat0 rfl rfl (vf43L2_go ?_)
          (repeat (first
    | refine RX_seq ?_
    | refine RX_block ?_
    | ((first | refine RX_reg ?_ | refine RX_cond' ?_ | refine RX_draw0 ?_ | refine RX_draw rfl ?_ | refine RX_skip ?_ | refine RX_exit ?_ | refine RX_ret ?_); try (simp only [go_sem, Int.reduceToNat, Nat.reducePow, Int.reduceEq, Int.reduceNe, Int.reduceLT, Int.reduceLE, Nat.reduceAdd, Nat.reduceLeDiff, ↓reduceIte, Nat.reduceLT, Nat.reduceMul, Nat.reduceSub, reduceCtorEq, frzLoc, rowCells, vAppM, beq_iff_eq, bne_iff_ne, bne_self_eq_false, beq_self_eq_true, beq_true, beq_false, I, B, w, vf43_res, vf43_keep, List.length_map, h1, q, decide_not, h2, hlen1]))))
          exact hb _ _ _ _ _ (.inr ⟨_, rfl, rfl⟩) hle2 ⟨rfl, rfl, rfl, rfl, rfl, rfl⟩
      by_cases h3 : p.val < 0
      · have hb := toBad (bad fun h => by have := h.2.1.1; omega)
        rcases hv with ⟨rfl, rfl, hr0⟩ | ⟨g, rfl, rfl⟩
        · refine RL_at hat0 rfl rfl (vf43L2_go ?_)
          (repeat (first
    | refine RX_seq ?_
    | refine RX_block ?_
    | ((first | refine RX_reg ?_ | refine RX_cond' ?_ | refine RX_draw0 ?_ | refine RX_draw rfl ?_ | refine RX_skip ?_ | refine RX_exit ?_ | refine RX_ret ?_); try (simp only [go_sem, Int.reduceToNat, Nat.reducePow, Int.reduceEq, Int.reduceNe, Int.reduceLT, Int.reduceLE, Nat.reduceAdd, Nat.reduceLeDiff, ↓reduceIte, Nat.reduceLT, Nat.reduceMul, Nat.reduceSub, reduceCtorEq, frzLoc, rowCells, vAppM, beq_iff_eq, bne_iff_ne, bne_self_eq_false, beq_self_eq_true, beq_true, beq_false, I, B, w, vf43_res, vf43_keep, List.length_map, h1, q, decide_not, h2, h3]))))
          exact hb _ _ _ _ _ (.inr ⟨_, rfl, rfl⟩) (by simp) ⟨rfl, rfl, rfl, rfl, rfl, rfl⟩
        · refine RL_at hat0 rfl rfl (vf43L2_go ?_)
          (repeat (first
    | refine RX_seq ?_
    | refine RX_block ?_
    | ((first | refine RX_reg ?_ | refine RX_cond' ?_ | refine RX_draw0 ?_ | refine RX_draw rfl ?_ | refine RX_skip ?_ | refine RX_exit ?_ | refine RX_ret ?_); try (simp only [go_sem, Int.reduceToNat, Nat.reducePow, Int.reduceEq, Int.reduceNe, Int.reduceLT, Int.reduceLE, Nat.reduceAdd, Nat.reduceLeDiff, ↓reduceIte, Nat.reduceLT, Nat.reduceMul, Nat.reduceSub, reduceCtorEq, frzLoc, rowCells, vAppM, beq_iff_eq, bne_iff_ne, bne_self_eq_false, beq_self_eq_true, beq_true, beq_false, I, B, w, vf43_res, vf43_keep, List.length_map, h1, q, decide_not, h2, h3, hlen1]))))
          exact hb _ _ _ _ _ (.inr ⟨_, rfl, rfl⟩) hle2 ⟨rfl, rfl, rfl, rfl, rfl, rfl⟩
      by_cases h4 : 255 < p.val
      · have hb := toBad (bad fun h => by have := h.2.1.2; omega)
        rcases hv with ⟨rfl, rfl, hr0⟩ | ⟨g, rfl, rfl⟩
        · refine RL_at hat0 rfl rfl (vf43L2_go ?_)
          (repeat (first
    | refine RX_seq ?_
    | refine RX_block ?_
    | ((first | refine RX_reg ?_ | refine RX_cond' ?_ | refine RX_draw0 ?_ | refine RX_draw rfl ?_ | refine RX_skip ?_ | refine RX_exit ?_ | refine RX_ret ?_); try (simp only [go_sem, Int.reduceToNat, Nat.reducePow, Int.reduceEq, Int.reduceNe, Int.reduceLT, Int.reduceLE, Nat.reduceAdd, Nat.reduceLeDiff, ↓reduceIte, Nat.reduceLT, Nat.reduceMul, Nat.reduceSub, reduceCtorEq, frzLoc, rowCells, vAppM, beq_iff_eq, bne_iff_ne, bne_self_eq_false, beq_self_eq_true, beq_true, beq_false, I, B, w, vf43_res, vf43_keep, List.length_map, h1, q, decide_not, h2, h3, h4, gt_iff_lt]))))
          exact hb _ _ _ _ _ (.inr ⟨_, rfl, rfl⟩) (by simp) ⟨rfl, rfl, rfl, rfl, rfl, rfl⟩
        · refine RL_at hat0 rfl rfl (vf43L2_go ?_)
          (repeat (first
    | refine RX_seq ?_
    | refine RX_block ?_
    | ((first | refine RX_reg ?_ | refine RX_cond' ?_ | refine RX_draw0 ?_ | refine RX_draw rfl ?_ | refine RX_skip ?_ | refine RX_exit ?_ | refine RX_ret ?_); try (simp only [go_sem, Int.reduceToNat, Nat.reducePow, Int.reduceEq, Int.reduceNe, Int.reduceLT, Int.reduceLE, Nat.reduceAdd, Nat.reduceLeDiff, ↓reduceIte, Nat.reduceLT, Nat.reduceMul, Nat.reduceSub, reduceCtorEq, frzLoc, rowCells, vAppM, beq_iff_eq, bne_iff_ne, bne_self_eq_false, beq_self_eq_true, beq_true, beq_false, I, B, w, vf43_res, vf43_keep, List.length_map, h1, q, decide_not, h2, h3, h4, gt_iff_lt, hlen1]))))
          exact hb _ _ _ _ _ (.inr ⟨_, rfl, rfl⟩) hle2 ⟨rfl, rfl, rfl, rfl, rfl, rfl⟩
      have hu8 : IntKind.u8.wrap p.val = p.val := by
        show p.val % 256 = p.val
        omega
      have hsn := take_drop_snoc hp hn18
      by_cases h5 : n < 34
      · have hg := toGood ⟨h2, ⟨by omega, by omega⟩, h5⟩
        rw [hsn] at hg
        have h16 : ¬ (16 : Int) ≤ (rows.length : Int) := by omega
        have h016 : ¬ (16 : Int) ≤ 0 := by decide
        rcases hv with ⟨rfl, rfl, hr0⟩ | ⟨g, rfl, rfl⟩
        · refine RL_at hat0 rfl rfl (vf43L2_go ?_)
          (repeat (first
    | refine RX_seq ?_
    | refine RX_block ?_
    | ((first | refine RX_reg ?_ | refine RX_cond' ?_ | refine RX_draw0 ?_ | refine RX_draw rfl ?_ | refine RX_skip ?_ | refine RX_exit ?_ | refine RX_ret ?_); try (simp only [go_sem, Int.reduceToNat, Nat.reducePow, Int.reduceEq, Int.reduceNe, Int.reduceLT, Int.reduceLE, Nat.reduceAdd, Nat.reduceLeDiff, ↓reduceIte, Nat.reduceLT, Nat.reduceMul, Nat.reduceSub, reduceCtorEq, frzLoc, rowCells, vAppM, beq_iff_eq, bne_iff_ne, bne_self_eq_false, beq_self_eq_true, beq_true, beq_false, I, B, w, vf43_res, vf43_keep, List.length_map, h1, q, decide_not, h2, h3, h4, gt_iff_lt, ge_iff_le, h016, hu8]))))
          refine hg _ _ _ _ (.inr ⟨_, ?_, rfl⟩) ⟨rfl, rfl, rfl, rfl, rfl, rfl⟩
          rw [byR, List.map_append, show (List.map (fun t => [D.lit (Value.int IntKind.u8 (Tm.val t))]) ((l.take n).drop 18)) = [] from hrows.symm.trans hr0]
          rfl
        · refine RL_at hat0 rfl rfl (vf43L2_go ?_)
          (repeat (first
    | refine RX_seq ?_
    | refine RX_block ?_
    | ((first | refine RX_reg ?_ | refine RX_cond' ?_ | refine RX_draw0 ?_ | refine RX_draw rfl ?_ | refine RX_skip ?_ | refine RX_exit ?_ | refine RX_ret ?_); try (simp only [go_sem, Int.reduceToNat, Nat.reducePow, Int.reduceEq, Int.reduceNe, Int.reduceLT, Int.reduceLE, Nat.reduceAdd, Nat.reduceLeDiff, ↓reduceIte, Nat.reduceLT, Nat.reduceMul, Nat.reduceSub, reduceCtorEq, frzLoc, rowCells, vAppM, beq_iff_eq, bne_iff_ne, bne_self_eq_false, beq_self_eq_true, beq_true, beq_false, I, B, w, vf43_res, vf43_keep, List.length_map, h1, q, decide_not, h2, h3, h4, gt_iff_lt, ge_iff_le, h16, hu8, hlen1]))))
          refine hg _ _ _ _ (.inr ⟨_, ?_, rfl⟩) ⟨rfl, rfl, rfl, rfl, rfl, rfl⟩
          rw [hrows]
          simp [byR]
      · have hb := toBad (bad fun h => h5 h.2.2)
        have h16 : (16 : Int) ≤ (rows.length : Int) := by omega
        rcases hv with ⟨rfl, rfl, hr0⟩ | ⟨g, rfl, rfl⟩
        · exfalso; rw [hr0] at hrn; simp at hrn; omega
        · refine RL_at hat0 rfl rfl (vf43L2_go ?_)
          (repeat (first
    | refine RX_seq ?_
    | refine RX_block ?_
    | ((first | refine RX_reg ?_ | refine RX_cond' ?_ | refine RX_draw0 ?_ | refine RX_draw rfl ?_ | refine RX_skip ?_ | refine RX_exit ?_ | refine RX_ret ?_); try (simp only [go_sem, Int.reduceToNat, Nat.reducePow, Int.reduceEq, Int.reduceNe, Int.reduceLT, Int.reduceLE, Nat.reduceAdd, Nat.reduceLeDiff, ↓reduceIte, Nat.reduceLT, Nat.reduceMul, Nat.reduceSub, reduceCtorEq, frzLoc, rowCells, vAppM, beq_iff_eq, bne_iff_ne, bne_self_eq_false, beq_self_eq_true, beq_true, beq_false, I, B, w, vf43_res, vf43_keep, List.length_map, h1, q, decide_not, h2, h3, h4, gt_iff_lt, ge_iff_le, h16, hlen1]))))
          exact hb _ _ _ _ _ (.inr ⟨_, rfl, rfl⟩) hle2 ⟨rfl, rfl, rfl, rfl, rfl, rfl⟩
end Go.Proofs.Ytahiikdkgbbmfaa

namespace Go.Proofs.Ytahiikdkgbbmfaa
open Go.VM
theorem e38 (n : Int) (ts : List Tm) (hl : ts.length < 1000000) (hs : ∀ t ∈ ts, t.args.length < 1000000) (hop : ∀ t ∈ ts, t.op = 3) :
    CV VP 38 [.d (.sl (ts.map Tm.row)), .d (I n)] [] = some ⟨Tm.findV n ts, [], [], 0⟩ := by
  refine CV_run (vf := vf38) rfl rfl ?_
  rw [vf38_start]
  (repeat (first
    | refine RX_seq ?_
    | refine RX_block ?_
    | ((first | refine RX_reg ?_ | refine RX_cond' ?_ | refine RX_draw0 ?_ | refine RX_draw rfl ?_ | refine RX_skip ?_ | refine RX_exit ?_ | refine RX_ret ?_); try (simp only [go_sem, Int.reduceToNat, Nat.reducePow, Int.reduceEq, Int.reduceNe, Int.reduceLT, Int.reduceLE, Nat.reduceAdd, Nat.reduceLeDiff, ↓reduceIte, Nat.reduceLT, Nat.reduceMul, Nat.reduceSub, reduceCtorEq, frzLoc, rowCells, vAppM, beq_iff_eq, bne_iff_ne, bne_self_eq_false, beq_self_eq_true, beq_true, beq_false, I, B, w, vf38_res, vf38_keep, List.length_map]))))
  refine RX_loop ?_
  refine RL_ind (fun m st => ∃ (i : Nat), i + m = ts.length ∧ Tm.find n (ts.drop i) = Tm.find n ts ∧
    At vf38K0 0 st ((.d (.sl (ts.map Tm.row)) :: .d (I n) :: .any :: .any :: .any :: .any :: .d (I (i : Nat)) :: .any :: .any :: .any :: .any :: .any :: .any :: .any :: .any :: .any :: .any :: .any :: .any :: .any :: .any :: .any :: .any :: .any :: .any :: .any :: .any :: .any :: .any :: .any :: .any :: .any :: .any :: .any :: .any :: .any :: .any :: .any :: .any :: .any :: .any :: .any :: .any :: .any :: .any :: .any :: .any :: .any :: .any :: [])) [] [] 0 0) ?_ ts.length _ ⟨0, Nat.zero_add _, rfl, rfl, rfl, rfl, rfl, rfl, rfl⟩
  rintro m st ⟨i, hi, hf, hat⟩ ih
  refine RL_at hat rfl rfl (vf38L0_go ?_)
  cases m with
  | zero =>
    have h1 : ¬ i < ts.length := by omega
    rw [List.drop_eq_nil_of_le (by omega)] at hf
    simp only [Tm.findV, ← hf]
    (repeat (first
    | refine RX_seq ?_
    | refine RX_block ?_
    | ((first | refine RX_reg ?_ | refine RX_cond' ?_ | refine RX_draw0 ?_ | refine RX_draw rfl ?_ | refine RX_skip ?_ | refine RX_exit ?_ | refine RX_ret ?_); try (simp only [go_sem, Int.reduceToNat, Nat.reducePow, Int.reduceEq, Int.reduceNe, Int.reduceLT, Int.reduceLE, Nat.reduceAdd, Nat.reduceLeDiff, ↓reduceIte, Nat.reduceLT, Nat.reduceMul, Nat.reduceSub, reduceCtorEq, frzLoc, rowCells, vAppM, beq_iff_eq, bne_iff_ne, bne_self_eq_false, beq_self_eq_true, beq_true, beq_false, I, B, w, vf38_res, vf38_keep, List.length_map, h1, Tm.find, Option.getD_none, Option.isSome_none]))))
  | succ m =>
    have h1 : i < ts.length := by omega
    obtain ⟨t, ht⟩ : ∃ t, ts[i]? = some t := ⟨_, List.getElem?_eq_getElem h1⟩
    rw [Tm.find_drop ht] at hf
    have hr : (ts.map Tm.row)[i]? = some [I t.op, I t.val, .sl (t.args.map Tm.row)] := by rw [List.getElem?_map, ht, Option.map_some, Tm.row_eq]
    have hm := List.mem_of_getElem? ht
    have hts := hs t hm
    have c1 := hop t hm
    have hwi := w_nat (i := i) (by omega)
    have next := fun (hp : t.isPart n = false) st hat => ih m st (Nat.lt_succ_self m) ⟨i + 1, by omega, by rw [← hf, hp]; rfl, hat⟩
    clear ih
    generalize hcell : t.args = args at *
    have hip : t.isPart n = (t.op == 3 && Tm.isHd n args) := by rw [Tm.isPart, hcell]
    cases args with
    | nil =>
      have hp : t.isPart n = false := by rw [hip, c1]; rfl
      (repeat (first
    | refine RX_seq ?_
    | refine RX_block ?_
    | ((first | refine RX_reg ?_ | refine RX_cond' ?_ | refine RX_draw0 ?_ | refine RX_draw rfl ?_ | refine RX_skip ?_ | refine RX_exit ?_ | refine RX_ret ?_); try (simp only [go_sem, Int.reduceToNat, Nat.reducePow, Int.reduceEq, Int.reduceNe, Int.reduceLT, Int.reduceLE, Nat.reduceAdd, Nat.reduceLeDiff, ↓reduceIte, Nat.reduceLT, Nat.reduceMul, Nat.reduceSub, reduceCtorEq, frzLoc, rowCells, vAppM, beq_iff_eq, bne_iff_ne, bne_self_eq_false, beq_self_eq_true, beq_true, beq_false, I, B, w, vf38_res, vf38_keep, h1, hr, List.length_map, hwi, gt_iff_lt, Int.lt_irrefl]))))
      exact next hp _ ⟨rfl, rfl, rfl, rfl, rfl, rfl⟩
    | cons u us =>
      by_cases c2 : u.op = 1
      · by_cases c3 : u.val = n
        · have hp : t.isPart n = true := by rw [hip, c1, Tm.isHd, c2, c3]; simp
          rw [hp] at hf
          simp only [if_true, List.tail_cons] at hf
          have hres : Tm.findV n ts = .tup [.d (.sl (us.map Tm.row)), .d (B true)] := by rw [Tm.findV, ← hf]; rfl
          rw [hres]
          have h3 := Tm.rows3 us (by simp only [List.length_cons] at hts; omega)
          have h4 := h3.2
          have h5 : List.take us.length (us.map Tm.row) = us.map Tm.row := List.take_of_length_le (by simp)
          (repeat (first
    | refine RX_seq ?_
    | refine RX_block ?_
    | ((first | refine RX_reg ?_ | refine RX_cond' ?_ | refine RX_draw0 ?_ | refine RX_draw rfl ?_ | refine RX_skip ?_ | refine RX_exit ?_ | refine RX_ret ?_); try (simp only [go_sem, Int.reduceToNat, Nat.reducePow, Int.reduceEq, Int.reduceNe, Int.reduceLT, Int.reduceLE, Nat.reduceAdd, Nat.reduceLeDiff, ↓reduceIte, Nat.reduceLT, Nat.reduceMul, Nat.reduceSub, reduceCtorEq, frzLoc, rowCells, vAppM, beq_iff_eq, bne_iff_ne, bne_self_eq_false, beq_self_eq_true, beq_true, beq_false, I, B, w, vf38_res, vf38_keep, h1, hr, c2, c3, List.length_map, hwi, gt_iff_lt, Tm.row_eq u, vSlice, vBounds, h4, h5, pos_succ, one_le_succ, ibeq]))))
        · have hp : t.isPart n = false := by rw [hip, Tm.isHd]; simp [c3]
          (repeat (first
    | refine RX_seq ?_
    | refine RX_block ?_
    | ((first | refine RX_reg ?_ | refine RX_cond' ?_ | refine RX_draw0 ?_ | refine RX_draw rfl ?_ | refine RX_skip ?_ | refine RX_exit ?_ | refine RX_ret ?_); try (simp only [go_sem, Int.reduceToNat, Nat.reducePow, Int.reduceEq, Int.reduceNe, Int.reduceLT, Int.reduceLE, Nat.reduceAdd, Nat.reduceLeDiff, ↓reduceIte, Nat.reduceLT, Nat.reduceMul, Nat.reduceSub, reduceCtorEq, frzLoc, rowCells, vAppM, beq_iff_eq, bne_iff_ne, bne_self_eq_false, beq_self_eq_true, beq_true, beq_false, I, B, w, vf38_res, vf38_keep, h1, hr, c2, c3, List.length_map, hwi, gt_iff_lt, Tm.row_eq u, pos_succ, ibeq]))))
          exact next hp _ ⟨rfl, rfl, rfl, rfl, rfl, rfl⟩
      · have hp : t.isPart n = false := by rw [hip, Tm.isHd]; simp [c2]
        (repeat (first
    | refine RX_seq ?_
    | refine RX_block ?_
    | ((first | refine RX_reg ?_ | refine RX_cond' ?_ | refine RX_draw0 ?_ | refine RX_draw rfl ?_ | refine RX_skip ?_ | refine RX_exit ?_ | refine RX_ret ?_); try (simp only [go_sem, Int.reduceToNat, Nat.reducePow, Int.reduceEq, Int.reduceNe, Int.reduceLT, Int.reduceLE, Nat.reduceAdd, Nat.reduceLeDiff, ↓reduceIte, Nat.reduceLT, Nat.reduceMul, Nat.reduceSub, reduceCtorEq, frzLoc, rowCells, vAppM, beq_iff_eq, bne_iff_ne, bne_self_eq_false, beq_self_eq_true, beq_true, beq_false, I, B, w, vf38_res, vf38_keep, h1, hr, c2, List.length_map, hwi, gt_iff_lt, Tm.row_eq u, pos_succ, ibeq]))))
        exact next hp _ ⟨rfl, rfl, rfl, rfl, rfl, rfl⟩
theorem e39 (n : Int) (ts : List Tm) (hl : ts.length < 1000000) (hs : ∀ t ∈ ts, t.args.length < 1000000) (hop : ∀ t ∈ ts, t.op = 3) :
    CV VP 39 [.d (.sl (ts.map Tm.row)), .d (I n)] [] = some ⟨.tup [.d (I (Tm.one ((Tm.find n ts).getD [])).1), .d (B (Tm.one ((Tm.find n ts).getD [])).2)], [], [], 0⟩ := by
  have h38 := e38 n ts hl hs hop
  simp only [Tm.findV] at h38
  cases hfd : Tm.find n ts with
  | none =>
    rw [hfd] at h38
    simp only [Option.getD_none, Option.isSome_none, List.map_nil, Tm.one] at h38 ⊢
    refine CV_run (vf := vf39) rfl rfl ?_
    rw [vf39_start]
    (repeat (first
    | refine RX_seq ?_
    | refine RX_block ?_
    | ((first | refine RX_reg ?_ | refine RX_cond' ?_ | refine RX_draw0 ?_ | refine RX_draw rfl ?_ | refine RX_skip ?_ | refine RX_exit ?_ | refine RX_ret ?_); try (simp only [go_sem, Int.reduceToNat, Nat.reducePow, Int.reduceEq, Int.reduceNe, Int.reduceLT, Int.reduceLE, Nat.reduceAdd, Nat.reduceLeDiff, ↓reduceIte, Nat.reduceLT, Nat.reduceMul, Nat.reduceSub, reduceCtorEq, frzLoc, rowCells, vAppM, beq_iff_eq, bne_iff_ne, bne_self_eq_false, beq_self_eq_true, beq_true, beq_false, I, B, w, vf39_res, vf39_keep, h38]))))
  | some r =>
    rw [hfd] at h38
    simp only [Option.getD_some, Option.isSome_some] at h38 ⊢
    clear hfd
    refine CV_run (vf := vf39) rfl rfl ?_
    rw [vf39_start]
    match r with
    | [] => (repeat (first
    | refine RX_seq ?_
    | refine RX_block ?_
    | ((first | refine RX_reg ?_ | refine RX_cond' ?_ | refine RX_draw0 ?_ | refine RX_draw rfl ?_ | refine RX_skip ?_ | refine RX_exit ?_ | refine RX_ret ?_); try (simp only [go_sem, Int.reduceToNat, Nat.reducePow, Int.reduceEq, Int.reduceNe, Int.reduceLT, Int.reduceLE, Nat.reduceAdd, Nat.reduceLeDiff, ↓reduceIte, Nat.reduceLT, Nat.reduceMul, Nat.reduceSub, reduceCtorEq, frzLoc, rowCells, vAppM, beq_iff_eq, bne_iff_ne, bne_self_eq_false, beq_self_eq_true, beq_true, beq_false, I, B, w, vf39_res, vf39_keep, h38, Tm.one, ibne]))))
    | u :: v :: us =>
      have h1 : ¬ ((us.length + 1 + 1 : Nat) : Int) = 1 := by omega
      (repeat (first
    | refine RX_seq ?_
    | refine RX_block ?_
    | ((first | refine RX_reg ?_ | refine RX_cond' ?_ | refine RX_draw0 ?_ | refine RX_draw rfl ?_ | refine RX_skip ?_ | refine RX_exit ?_ | refine RX_ret ?_); try (simp only [go_sem, Int.reduceToNat, Nat.reducePow, Int.reduceEq, Int.reduceNe, Int.reduceLT, Int.reduceLE, Nat.reduceAdd, Nat.reduceLeDiff, ↓reduceIte, Nat.reduceLT, Nat.reduceMul, Nat.reduceSub, reduceCtorEq, frzLoc, rowCells, vAppM, beq_iff_eq, bne_iff_ne, bne_self_eq_false, beq_self_eq_true, beq_true, beq_false, I, B, w, vf39_res, vf39_keep, h38, Tm.one, List.length_map, h1, ibne]))))
    | [u] =>
      by_cases hu : u.op = 1
      · (repeat (first
    | refine RX_seq ?_
    | refine RX_block ?_
    | ((first | refine RX_reg ?_ | refine RX_cond' ?_ | refine RX_draw0 ?_ | refine RX_draw rfl ?_ | refine RX_skip ?_ | refine RX_exit ?_ | refine RX_ret ?_); try (simp only [go_sem, Int.reduceToNat, Nat.reducePow, Int.reduceEq, Int.reduceNe, Int.reduceLT, Int.reduceLE, Nat.reduceAdd, Nat.reduceLeDiff, ↓reduceIte, Nat.reduceLT, Nat.reduceMul, Nat.reduceSub, reduceCtorEq, frzLoc, rowCells, vAppM, beq_iff_eq, bne_iff_ne, bne_self_eq_false, beq_self_eq_true, beq_true, beq_false, I, B, w, vf39_res, vf39_keep, h38, Tm.one, hu, Tm.row_eq u, ibne]))))
      · (repeat (first
    | refine RX_seq ?_
    | refine RX_block ?_
    | ((first | refine RX_reg ?_ | refine RX_cond' ?_ | refine RX_draw0 ?_ | refine RX_draw rfl ?_ | refine RX_skip ?_ | refine RX_exit ?_ | refine RX_ret ?_); try (simp only [go_sem, Int.reduceToNat, Nat.reducePow, Int.reduceEq, Int.reduceNe, Int.reduceLT, Int.reduceLE, Nat.reduceAdd, Nat.reduceLeDiff, ↓reduceIte, Nat.reduceLT, Nat.reduceMul, Nat.reduceSub, reduceCtorEq, frzLoc, rowCells, vAppM, beq_iff_eq, bne_iff_ne, bne_self_eq_false, beq_self_eq_true, beq_true, beq_false, I, B, w, vf39_res, vf39_keep, h38, Tm.one, hu, Tm.row_eq u, ibne]))))
theorem e41 (n : Int) : CV VP 41 [.d (I n)] [] = some ⟨.d (.sl ([pT 12 [nT n]].map Tm.row)), [], [], 0⟩ := by
  have h24 := e24 12 [nT n] (by simp)
  simp only [pT, nT_row, Tm.ag, Tm.row_mk, Tm.op_mk, Tm.val_mk, Tm.args_mk, List.map_cons, List.map_nil] at h24 ⊢
  refine CV_run (vf := vf41) rfl rfl ?_
  rw [vf41_start]
  (repeat (first
    | refine RX_seq ?_
    | refine RX_block ?_
    | ((first | refine RX_reg ?_ | refine RX_cond' ?_ | refine RX_draw0 ?_ | refine RX_draw rfl ?_ | refine RX_skip ?_ | refine RX_exit ?_ | refine RX_ret ?_); try (simp only [go_sem, Int.reduceToNat, Nat.reducePow, Int.reduceEq, Int.reduceNe, Int.reduceLT, Int.reduceLE, Nat.reduceAdd, Nat.reduceLeDiff, ↓reduceIte, Nat.reduceLT, Nat.reduceMul, Nat.reduceSub, reduceCtorEq, frzLoc, rowCells, vAppM, beq_iff_eq, bne_iff_ne, bne_self_eq_false, beq_self_eq_true, beq_true, beq_false, I, B, w, vf41_res, vf41_keep, e72, h24]))))
theorem e42 (n : Int) : CV VP 42 [.d (I n)] [] = some ⟨.d (.sl ([pT 12 [nT n]].map Tm.row)), [], [], 0⟩ := by
  have h85 := e85 12 [nT n] (by simp)
  simp only [pT, nT_row, Tm.ag, Tm.row_mk, Tm.op_mk, Tm.val_mk, Tm.args_mk, List.map_cons, List.map_nil] at h85 ⊢
  refine CV_run (vf := vf42) rfl rfl ?_
  rw [vf42_start]
  (repeat (first
    | refine RX_seq ?_
    | refine RX_block ?_
    | ((first | refine RX_reg ?_ | refine RX_cond' ?_ | refine RX_draw0 ?_ | refine RX_draw rfl ?_ | refine RX_skip ?_ | refine RX_exit ?_ | refine RX_ret ?_); try (simp only [go_sem, Int.reduceToNat, Nat.reducePow, Int.reduceEq, Int.reduceNe, Int.reduceLT, Int.reduceLE, Nat.reduceAdd, Nat.reduceLeDiff, ↓reduceIte, Nat.reduceLT, Nat.reduceMul, Nat.reduceSub, reduceCtorEq, frzLoc, rowCells, vAppM, beq_iff_eq, bne_iff_ne, bne_self_eq_false, beq_self_eq_true, beq_true, beq_false, I, B, w, vf42_res, vf42_keep, e75, h85]))))
theorem rbV_form (l : List Tm) : ∃ (f0 h0 a0 f1 h1 a1 f2 h2 a2 f3 h3 a3 p0 p1 l0 l1 r0 r1 : Int) (s : ByteArray) (b : Bool),
    rbV l = .tup [.agg [.d (I f0), .d (U h0), .d (U a0), .d (I f1), .d (U h1), .d (U a1), .d (I f2), .d (U h2), .d (U a2), .d (I f3), .d (U h3), .d (U a3), .d (I p0), .d (I p1), .d (I l0), .d (I l1), .d (I r0), .d (I r1)], .d (.lit (.string s)), .d (B b)] := by
  unfold rbV rb0
  split
  · exact ⟨_, _, _, _, _, _, _, _, _, _, _, _, _, _, _, _, _, _, _, _, rfl⟩
  · exact ⟨_, _, _, _, _, _, _, _, _, _, _, _, _, _, _, _, _, _, _, _, rfl⟩
theorem find_tame {n : Int} : ∀ {ts : List Tm}, (∀ t ∈ ts, t.tame) → (Tm.mk 3 0 ((Tm.find n ts).getD [])).tame
  | [], _ => ⟨by simp [Tm.find], trivial⟩
  | t :: ts, h => by
    rw [Tm.find]
    split
    · have ht := h t List.mem_cons_self
      obtain ⟨o, v, a⟩ := t
      cases a with
      | nil => exact ⟨by simp [Tm.args], trivial⟩
      | cons u us => exact ⟨by have := ht.1; simp only [List.length_cons] at this; simp only [Option.getD_some, Tm.args_mk, List.tail_cons]; omega, ht.2.2⟩
    · exact find_tame fun u hu => h u (List.mem_cons_of_mem _ hu)
end Go.Proofs.Ytahiikdkgbbmfaa

namespace Go.Proofs.Ytahiikdkgbbmfaa
open Go.VM
set_option maxHeartbeats 8000000 in
theorem e6 {l : List Int} (hB : ByteL l) (n : Int) : CV VP 6 [.d (byteD l), .d (I n)] [] = some ⟨.d (B true), [], [], 0⟩ := by
  have h21 : CV VP 21 [.d (byteD l), .d (I 200)] [] = some ⟨.ptr 0 0, [[.sl 1 ((l.take 200).map byteRow) (.own 0 0), .d (I 0)]], [0], 1⟩ := e21 200 (by decide)
  have hB2 := bytes_take hB 200 (by decide)
  generalize l.take 200 = q at *
  have h36 : CV VP 36 [.ptr 0 0] [[.d (.sl (q.map byteRow)), .d (I 0)]] = some ⟨.tup [(gaF q 0).1.1.ag, (gaF q 0).1.2.ag], [cdB q (gaF q 0).2], [], 0⟩ := e36b hB2 0 0 [[]] CtxOk.base
  obtain ⟨n0, r, b, bs, hn, hk0, hid0, hn1, hr, hb⟩ := gaF_a hB2 0
  generalize (gaF q 0).2 = k1 at *
  generalize (gaF q 0).1.2 = gb at *
  generalize (gaF q 0).1.1 = ga at *
  have c37 : ∀ (own : List (List V)), own.map V.erL = own → own.all (V.ltbL (1 + own.length)) = true → CV VP 37 [.ptr 0 0, ga.ag] (cdB q k1 :: own) = some ⟨.d (.sl ((paS q ga.id b k1).1.map Tm.row)), cdB q (paS q ga.id b k1).2 :: own, [], 0⟩ := fun own => cx_lift (fun bl h => e37 hB2 ga hk0 (.inl hid0) hn hn1 hr hb 0 k1 bl h) CtxOk.base
  have hgood := paS_good hB2 ga.id b k1
  generalize paS q ga.id b k1 = M at *
  obtain ⟨ps, k2⟩ := M
  simp only at c37 hgood
  obtain ⟨hg, hgl⟩ := hgood
  have ht : ∀ t ∈ ps, t.tame := fun t h => (hg t h).2
  have hla : ∀ t ∈ ps, t.args.length < 1000000 := fun t h => (ht t h).len
  have hop : ∀ t ∈ ps, t.op = 3 := fun t h => by
    have := (hg t h).1
    obtain ⟨o, v, a⟩ := t
    cases a with
    | nil => simp [Tm.partB] at this
    | cons u us => simp only [Tm.partB, Bool.and_eq_true, decide_eq_true_eq] at this; exact this.1
  have hm1 := Int.emod_nonneg n (b := 18) (by decide)
  have hm2 := Int.emod_lt_of_pos n (b := 18) (by decide)
  have h14 := e14 n 18 (by decide) (by decide)
  have w1 : IntKind.i64.wrap (1 + n % 18) = 1 + n % 18 := w_in (by omega) (by omega)
  generalize n % 18 = n2 at *
  clear hB2 hr hb hn hn1 hk0 hid0 hg
  obtain ⟨gid, gpeer, gloc, grem, grules, ggroups, gnow, gcount, gguard, gvault, gredir, ghalf, gsas, gkids, gtickets⟩ := ga
  obtain ⟨hid', hpeer, hloc, hrem, hrules, hgroups, hnow, hcount, hguard, hvault, hredir, hhalf, hsas, hkids, htickets⟩ := gb
  simp only [Gw.ag, Gw.cells, List.map_cons, List.map_nil] at h36 c37
  refine CV_run (vf := vf6) rfl rfl ?_
  rw [vf6_start]
  (repeat (first
    | refine RX_seq ?_
    | refine RX_block ?_
    | ((first | refine RX_reg ?_ | refine RX_cond' ?_ | refine RX_draw0 ?_ | refine RX_draw rfl ?_ | refine RX_skip ?_ | refine RX_exit ?_ | refine RX_ret ?_); try (simp only [go_sem, Int.reduceToNat, Nat.reducePow, Int.reduceEq, Int.reduceNe, Int.reduceLT, Int.reduceLE, Nat.reduceAdd, Nat.reduceLeDiff, ↓reduceIte, Nat.reduceLT, Nat.reduceMul, Nat.reduceSub, reduceCtorEq, frzLoc, rowCells, vAppM, beq_iff_eq, bne_iff_ne, bne_self_eq_false, beq_self_eq_true, beq_true, beq_false, I, B, w, vf6_res, vf6_keep, e13, h21, h36, c37, h14, w1]))))
  refine RX_loopN (n := 3) rfl ?_
  refine RL_ind (fun m st => ∃ i : Nat, i + m = 2 ∧ At vf6K0 3 st ((.any :: .any :: .any :: .any :: .any :: .any :: .any :: .any :: .d (.sl (ps.map Tm.row)) :: .any :: .any :: .any :: .any :: .any :: .any :: .any :: .any :: .any :: .any :: .any :: .any :: .any :: .any :: .any :: .any :: .any :: .any :: .any :: .any :: .any :: .any :: .any :: .any :: .any :: .any :: .any :: .any :: .any :: .any :: .any :: .any :: .sl 1 [[I n], [I (1 + n2)]] .full :: .d (I 2) :: .d (I (i : Nat)) :: .any :: .any :: .any :: .any :: .any :: .any :: .any :: .any :: .any :: .any :: .any :: .any :: .any :: .any :: .any :: .any :: .any :: .any :: .any :: .any :: .any :: .any :: .any :: .any :: .any :: .any :: .any :: .any :: .any :: .any :: .any :: .any :: .any :: .any :: .any :: .any :: .any :: .any :: .any :: .any :: .any :: .any :: .any :: .any :: .any :: .any :: .any :: .any :: .any :: .any :: .any :: .any :: .any :: .any :: .any :: .any :: .any :: .any :: .any :: .any :: .any :: .any :: .any :: .any :: .any :: .any :: .any :: .any :: .any :: .any :: .any :: .any :: .any :: .any :: .any :: .any :: .any :: .any :: .any :: .any :: .any :: .any :: .any :: .any :: .any :: .any :: .any :: .any :: .any :: .any :: [])) _ [0] 1 0) ?_ 2 _ ⟨0, rfl, rfl, rfl, rfl, rfl, rfl, rfl⟩
  rintro m st ⟨i, hi, hat⟩ ih
  refine RL_at hat rfl rfl (vf6L0_go ?_)
  clear hat
  cases m with
  | zero =>
    obtain rfl : i = 2 := by omega
    clear ih
    (repeat (first
    | refine RX_seq ?_
    | refine RX_block ?_
    | ((first | refine RX_reg ?_ | refine RX_cond' ?_ | refine RX_draw0 ?_ | refine RX_draw rfl ?_ | refine RX_skip ?_ | refine RX_exit ?_ | refine RX_ret ?_); try (simp only [go_sem, Int.reduceToNat, Nat.reducePow, Int.reduceEq, Int.reduceNe, Int.reduceLT, Int.reduceLE, Nat.reduceAdd, Nat.reduceLeDiff, ↓reduceIte, Nat.reduceLT, Nat.reduceMul, Nat.reduceSub, reduceCtorEq, frzLoc, rowCells, vAppM, beq_iff_eq, bne_iff_ne, bne_self_eq_false, beq_self_eq_true, beq_true, beq_false, I, B, w, vf6_res, vf6_keep]))))
  | succ m =>
    have h1 : (i : Int) < 2 := by omega
    have hi2 : i < 2 := by omega
    have hwi : IntKind.i64.wrap ((i : Int) + 1) = ((i + 1 : Nat) : Int) := w_in (by omega) (by omega)
    obtain ⟨k, hk⟩ : ∃ k : Int, [[I n], [I (1 + n2)]][i]? = some [I k] := by
      match i, hi2 with
      | 0, _ => exact ⟨n, rfl⟩
      | 1, _ => exact ⟨1 + n2, rfl⟩
    have h23 := e23 k ps (by omega) hla
    have h38 := e38 k ps (by omega) hla hop
    have h25 := e25 k ps (by omega) hla
    have h39 := e39 k ps (by omega) hla hop
    have hrt := find_tame (n := k) ht
    simp only [Tm.findV] at h23 h38
    generalize (Tm.find k ps).isSome = so at *
    generalize (Tm.find k ps).getD [] = r at *
    have hrl : r.length < 1000000 := hrt.1
    have h26 := e26 r r (by omega) (Tm.tames.smalls hrt.2)
    rw [Tm.eqbs_refl] at h26
    have h24 := e24 k r hrl
    have h40 := e40 k r hrl
    have hpt : (pT k r).tame ∨ True := .inr trivial
    have h19 := e19 _ (pT k r) (pT k r) (Nat.lt_succ_self _) ⟨by simp only [List.length_cons]; omega, (tame_nT k).small, Tm.tames.smalls hrt.2⟩
    rw [Tm.eqb_refl] at h19
    have h41 := e41 k
    have h42 := e42 k
    have h26b := e26 [pT 12 [nT k]] [pT 12 [nT k]] (by simp) ⟨⟨by simp, (tame_nT _).small, (tame_nT _).small, trivial⟩, trivial⟩
    rw [Tm.eqbs_refl] at h26b
    have h43 := e43 r hrl
    have h44 := e44 r hrl
    obtain ⟨f0, h0, a0, f1, h1', a1, f2, h2, a2, f3, h3, a3, p0, p1, l0, l1, r0, r1, s, bb, hv⟩ := rbV_form r
    rw [hv] at h43 h44
    clear hv hrt hpt hrl hla ht hop
    simp only [Tm.ag, pT, nT, Tm.row_mk, Tm.op_mk, Tm.val_mk, Tm.args_mk, List.map_cons, List.map_nil] at h24 h40 h19 h41 h42 h26b
    (repeat (first
    | refine RX_seq ?_
    | refine RX_block ?_
    | ((first | refine RX_reg ?_ | refine RX_cond' ?_ | refine RX_draw0 ?_ | refine RX_draw rfl ?_ | refine RX_skip ?_ | refine RX_exit ?_ | refine RX_ret ?_); try (simp only [go_sem, Int.reduceToNat, Nat.reducePow, Int.reduceEq, Int.reduceNe, Int.reduceLT, Int.reduceLE, Nat.reduceAdd, Nat.reduceLeDiff, ↓reduceIte, Nat.reduceLT, Nat.reduceMul, Nat.reduceSub, reduceCtorEq, frzLoc, rowCells, vAppM, beq_iff_eq, bne_iff_ne, bne_self_eq_false, beq_self_eq_true, beq_true, beq_false, I, B, w, vf6_res, vf6_keep, h1, hi2, hk, h23, h38, h25, h39, h26, h24, h40, h19, h41, h42, h26b, h43, h44, hwi, vCellsEq, vCellEq, ibne, ibeq, vStr, Bool.not_true]))))
    exact ih m _ (Nat.lt_succ_self m) ⟨i + 1, by omega, rfl, rfl, rfl, rfl, rfl, rfl⟩
end Go.Proofs.Ytahiikdkgbbmfaa
