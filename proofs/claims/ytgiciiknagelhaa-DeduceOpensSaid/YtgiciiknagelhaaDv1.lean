/- Drawn terms on the machine. Conditions: none. -/
import Derived.Test.YtgiciiknagelhaaVe
import Derived.Test.YtgiciiknagelhaaDua
set_option linter.unusedSimpArgs false
namespace Go.Proofs.Ytgiciiknagelhaa
open Go.VM
theorem e29b {l : List Int} (hB : Bytes l) (id k : Nat) {n : Int} (hn : 0 < n) (hn2 : n ≤ 256) : ∀ bl, CtxOk bl id →
    CV VP 37 [.ptr id 0, .d (I n)] (cx bl id l (k : Nat) []) = some ⟨.d (I (nxV l k n)), cx bl id l (nxA l k : Nat) [], [], 0⟩ := by
  intro bl h
  refine CV_run (vf := vf37) rfl rfl ?_
  rw [vf37_start]
  by_cases hk : k < l.length
  · have hk2 : ¬ ((k : Int) ≥ (l.length : Int)) := by omega
    have hz := List.getElem?_eq_getElem hk
    have hzb := hB.mem _ (List.getElem_mem hk)
    have hv : nxV l k n = l[k] * n / 256 := by rw [nxV, dif_pos hk]
    have ha : nxA l k = k + 1 := by rw [nxA, if_pos hk]
    rw [hv, ha]
    generalize l[k] = z at hz hzb
    have hzn : 0 ≤ z * n ∧ z * n ≤ 65280 := ⟨Int.mul_nonneg hzb.1 (by omega), by
      calc z * n ≤ 255 * 256 := Int.mul_le_mul hzb.2 hn2 (by omega) (by decide)
        _ = 65280 := by decide⟩
    have w1 := w_nat (Nat.lt_trans hk hB.len)
    have w2 : IntKind.i64.wrap (((k + 1 : Nat) : Int) - 1) = (k : Int) := by rw [w_in (by omega) (by have := hB.len; omega)]; omega
    have w3 : IntKind.i64.wrap z = z := w_in (by omega) (by omega)
    have w4 : IntKind.i64.wrap (z * n) = z * n := w_in (by omega) (by omega)
    have w5 : IntKind.i64.wrap ((z * n).tdiv 256) = z * n / 256 := by
      rw [Int.tdiv_eq_ediv_of_nonneg hzn.1, w_in (by omega) (by omega)]
    (repeat (first
    | refine RX_seq ?_
    | refine RX_block ?_
    | ((first | refine RX_reg ?_ | refine RX_cond' ?_ | refine RX_draw0 ?_ | refine RX_draw rfl ?_ | refine RX_skip ?_ | refine RX_gfrz ?_ | refine RX_exit ?_ | refine RX_ret ?_); try (simp only [go_sem, Nat.max_zero, List.isEmpty_cons, Int.reduceToNat, Nat.reducePow, Int.reduceEq, Int.reduceNe, Int.reduceLT, Int.reduceLE, Nat.reduceAdd, Nat.reduceLeDiff, ↓reduceIte, Nat.reduceLT, Nat.reduceMul, Nat.reduceSub, reduceCtorEq, frzLoc, rowCells, vAppM, beq_iff_eq, bne_iff_ne, bne_self_eq_false, beq_self_eq_true, beq_true, beq_false, I, B, w, cx_len, cx_app, cx_own0, cx_own, cx_setOwn0, cx_setOwn, cx_take, cx_takeN, Nat.add_right_cancel_iff, Nat.lt_irrefl, cx_nlt, Nat.not_lt_zero, cx_get' h, cx_setId' h, cx_er h, cx_all0 h, cx_all h, CtxOk.lt h, CtxOk.ne0 h, hk2, hk, hz, w1, w2, w3, w4, w5, List.length_map, List.getElem?_map, byteRow, vf37_res, vf37_keep]))))
  · have hk2 : (k : Int) ≥ (l.length : Int) := by omega
    have hv : nxV l k n = 0 := by rw [nxV, dif_neg hk]
    have ha : nxA l k = k := by rw [nxA, if_neg hk]
    rw [hv, ha]
    (repeat (first
    | refine RX_seq ?_
    | refine RX_block ?_
    | ((first | refine RX_reg ?_ | refine RX_cond' ?_ | refine RX_draw0 ?_ | refine RX_draw rfl ?_ | refine RX_skip ?_ | refine RX_gfrz ?_ | refine RX_exit ?_ | refine RX_ret ?_); try (simp only [go_sem, Nat.max_zero, List.isEmpty_cons, Int.reduceToNat, Nat.reducePow, Int.reduceEq, Int.reduceNe, Int.reduceLT, Int.reduceLE, Nat.reduceAdd, Nat.reduceLeDiff, ↓reduceIte, Nat.reduceLT, Nat.reduceMul, Nat.reduceSub, reduceCtorEq, frzLoc, rowCells, vAppM, beq_iff_eq, bne_iff_ne, bne_self_eq_false, beq_self_eq_true, beq_true, beq_false, I, B, w, cx_len, cx_app, cx_own0, cx_own, cx_setOwn0, cx_setOwn, cx_take, cx_takeN, Nat.add_right_cancel_iff, Nat.lt_irrefl, cx_nlt, Nat.not_lt_zero, cx_get' h, cx_setId' h, cx_er h, cx_all0 h, cx_all h, CtxOk.lt h, CtxOk.ne0 h, hk2, hk, List.length_map, vf37_res, vf37_keep]))))
theorem e29 {l : List Int} (hB : Bytes l) {bl : List (List V)} {id k : Nat} {own : List (List V)} {n : Int} (h : CtxOk bl id) (hn : 0 < n) (hn2 : n ≤ 256) (he : own.map V.erL = own) (hl : own.all (V.ltbL (bl.length + own.length)) = true) :
    CV VP 37 [.ptr id 0, .d (I n)] (cx bl id l (k : Nat) own) = some ⟨.d (I (nxV l k n)), cx bl id l (nxA l k : Nat) own, [], 0⟩ :=
  cx_lift (e29b hB id k hn hn2) h he hl
end Go.Proofs.Ytgiciiknagelhaa
namespace Go.Proofs.Ytgiciiknagelhaa
open Go.VM
theorem e21 {l : List Int} (n : Nat) (hn : n < 1000) : CV VP 11 [.d (byteD l), .d (I n)] [] = some ⟨.ptr 0 0, [[.sl 1 ((l.take n).map byteRow) (.own 0 0), .d (I 0)]], [0], 1⟩ := by
  have hall : (l.map byteRow).all (fun r => r.length == 1) = true := by
    rw [List.all_eq_true]
    intro r hr
    obtain ⟨z, _, rfl⟩ := List.mem_map.1 hr
    rfl
  have hall2 : ((l.take n).map byteRow).all (fun r => r.length == 1) = true := by
    rw [List.all_eq_true]
    intro r hr
    obtain ⟨z, _, rfl⟩ := List.mem_map.1 hr
    rfl
  refine CV_run (vf := vf11) rfl rfl ?_
  rw [vf11_start]
  have hall3 : (List.take n (l.map byteRow)).all (fun r => r.length == 1) = true := by rw [← List.map_take]; exact hall2
  by_cases h : (n : Int) < l.length
  · have h1 : ((n : Int) ≤ (l.length : Int)) := by omega
    have h2 : min n l.length ≤ 4294967296 := by omega
    (repeat (first
    | refine RX_seq ?_
    | refine RX_block ?_
    | ((first | refine RX_reg ?_ | refine RX_cond' ?_ | refine RX_draw0 ?_ | refine RX_draw rfl ?_ | refine RX_skip ?_ | refine RX_gfrz ?_ | refine RX_exit ?_ | refine RX_ret ?_); try (simp only [go_sem, Nat.max_zero, List.isEmpty_cons, Int.reduceToNat, Nat.reducePow, Int.reduceEq, Int.reduceNe, Int.reduceLT, Int.reduceLE, Nat.reduceAdd, Nat.reduceLeDiff, ↓reduceIte, Nat.reduceLT, Nat.reduceMul, Nat.reduceSub, reduceCtorEq, frzLoc, rowCells, vAppM, beq_iff_eq, bne_iff_ne, bne_self_eq_false, beq_self_eq_true, beq_true, beq_false, I, B, w, vf11_res, vf11_keep, byteD, h, h1, h2, hall, hall3, vSlice, vBounds, List.length_map, List.map_take, List.length_take]))))
  · have h3 : l.take n = l := List.take_of_length_le (by omega)
    have h2 : l.length ≤ 4294967296 ∨ True := .inr trivial
    have h4 : l.length ≤ 4294967296 := by omega
    have h5 : List.take l.length (l.map byteRow) = l.map byteRow := List.take_of_length_le (by simp)
    rw [h3]
    (repeat (first
    | refine RX_seq ?_
    | refine RX_block ?_
    | ((first | refine RX_reg ?_ | refine RX_cond' ?_ | refine RX_draw0 ?_ | refine RX_draw rfl ?_ | refine RX_skip ?_ | refine RX_gfrz ?_ | refine RX_exit ?_ | refine RX_ret ?_); try (simp only [go_sem, Nat.max_zero, List.isEmpty_cons, Int.reduceToNat, Nat.reducePow, Int.reduceEq, Int.reduceNe, Int.reduceLT, Int.reduceLE, Nat.reduceAdd, Nat.reduceLeDiff, ↓reduceIte, Nat.reduceLT, Nat.reduceMul, Nat.reduceSub, reduceCtorEq, frzLoc, rowCells, vAppM, beq_iff_eq, bne_iff_ne, bne_self_eq_false, beq_self_eq_true, beq_true, beq_false, I, B, w, vf11_res, vf11_keep, byteD, h, h4, h5, hall, vSlice, vBounds, List.length_map, Int.le_refl]))))
end Go.Proofs.Ytgiciiknagelhaa
namespace Go.Proofs.Ytgiciiknagelhaa
open Go.VM
end Go.Proofs.Ytgiciiknagelhaa
namespace Go.Proofs.Ytgiciiknagelhaa
open Go.VM
def Rows3 (rows : List (List D)) : Prop := rows.length ≤ 4294967296 ∧ rows.all (fun r => r.length == 3) = true
end Go.Proofs.Ytgiciiknagelhaa
namespace Go.Proofs.Ytgiciiknagelhaa
open Go.VM
end Go.Proofs.Ytgiciiknagelhaa
namespace Go.Proofs.Ytgiciiknagelhaa
open Go.VM
end Go.Proofs.Ytgiciiknagelhaa
namespace Go.Proofs.Ytgiciiknagelhaa
open Go.VM
end Go.Proofs.Ytgiciiknagelhaa
namespace Go.Proofs.Ytgiciiknagelhaa
open Go.VM
inductive Tm where
  | mk (op v : Int) (args : List Tm)
mutual
def Tm.row : Tm → List D
  | .mk op v args => [I op, I v, .sl (Tm.rows args)]
def Tm.rows : List Tm → List (List D)
  | [] => []
  | t :: ts => t.row :: Tm.rows ts
end
mutual
def Tm.eqb : Tm → Tm → Bool
  | .mk a b c, .mk x y z => a == x && (b == y && Tm.eqbs c z)
def Tm.eqbs : List Tm → List Tm → Bool
  | [], [] => true
  | t :: ts, u :: us => t.eqb u && Tm.eqbs ts us
  | _, _ => false
end
mutual
def Tm.small : Tm → Prop
  | .mk _ _ args => args.length < 1099511627776 ∧ Tm.smalls args
def Tm.smalls : List Tm → Prop
  | [] => True
  | t :: ts => t.small ∧ Tm.smalls ts
end
theorem Tm.rows_eq : ∀ ts : List Tm, Tm.rows ts = ts.map Tm.row
  | [] => rfl
  | t :: ts => by rw [Tm.rows, Tm.rows_eq ts]; rfl
theorem Tm.smalls_mem : ∀ {ts : List Tm} {t : Tm}, Tm.smalls ts → t ∈ ts → t.small
  | t :: ts, u, h, hu => by
    rcases List.mem_cons.1 hu with rfl | hu
    · exact h.1
    · exact Tm.smalls_mem h.2 hu
end Go.Proofs.Ytgiciiknagelhaa
namespace Go.Proofs.Ytgiciiknagelhaa
open Go.VM
end Go.Proofs.Ytgiciiknagelhaa
namespace Go.Proofs.Ytgiciiknagelhaa
open Go.VM
def Tm.op : Tm → Int | .mk a _ _ => a
def Tm.val : Tm → Int | .mk _ b _ => b
def Tm.args : Tm → List Tm | .mk _ _ c => c
theorem Tm.op_mk (a b : Int) (c : List Tm) : (Tm.mk a b c).op = a := rfl
theorem Tm.val_mk (a b : Int) (c : List Tm) : (Tm.mk a b c).val = b := rfl
theorem Tm.args_mk (a b : Int) (c : List Tm) : (Tm.mk a b c).args = c := rfl
theorem Tm.row_eq (t : Tm) : t.row = [I t.op, I t.val, .sl (t.args.map Tm.row)] := by cases t; rw [Tm.row, Tm.rows_eq]; rfl
theorem Tm.row_mk (a b : Int) (c : List Tm) : (Tm.mk a b c).row = [I a, I b, .sl (c.map Tm.row)] := by rw [Tm.row, Tm.rows_eq]
abbrev Tm.ag (t : Tm) : V := .agg [.d (I t.op), .d (I t.val), .d (.sl (t.args.map Tm.row))]
theorem Tm.rows3 (ts : List Tm) (h : ts.length ≤ 4294967296) : Rows3 (ts.map Tm.row) :=
  ⟨by simpa using h, by rw [List.all_eq_true]; intro r hr; obtain ⟨t, _, rfl⟩ := List.mem_map.1 hr; rw [Tm.row_eq]; rfl⟩
end Go.Proofs.Ytgiciiknagelhaa
namespace Go.Proofs.Ytgiciiknagelhaa
open Go.VM
end Go.Proofs.Ytgiciiknagelhaa
namespace Go.Proofs.Ytgiciiknagelhaa
open Go.VM
end Go.Proofs.Ytgiciiknagelhaa
namespace Go.Proofs.Ytgiciiknagelhaa
open Go.VM
theorem toDs_map' : ∀ ds : List D, toDs (ds.map .d) = some ds
  | [] => rfl
  | d :: ds => by simp [toDs, V.toD, toDs_map' ds]
theorem impL_d (a b : Nat) : ∀ ds : List D, V.impL a b (ds.map .d) = ds.map .d
  | [] => rfl
  | d :: ds => by simp only [List.map_cons, V.impL, V.imp, impL_d a b ds]
theorem chunk_flat' {sz : Nat} : ∀ {ms : List (List D)}, (∀ r ∈ ms, r.length = sz) → chunk sz ms.length ms.flatten = ms
  | [], _ => rfl
  | r :: ms, h => by
    have hr := h r List.mem_cons_self
    subst hr
    rw [List.length_cons, chunk, List.flatten_cons, List.take_left, List.drop_left, chunk_flat' fun x hx => h x (List.mem_cons_of_mem _ hx)]
theorem frzRows {rows : List (List D)} (h : ∀ r ∈ rows, r.length = 3) : frzLoc (some (rowCells rows)) 0 rows.length 3 = .d (.sl rows) := by
  have hl := rowCells_len h
  simp only [frzLoc]
  rw [if_pos (by omega), List.drop_zero, List.take_of_length_le (by omega), rowCells, toDs_map']
  simp only
  rw [chunk_flat' h]
theorem e98 {r : List D} {rs : List (List D)} (h : Rows3 (r :: rs)) (hn : rs.length ≤ 1073741823) : CV VP 98 [.d (.sl (r :: rs))] [] = some ⟨.loc 0 0 (rs.length + 1) 3, [rowCells (r :: rs)], [], 0⟩ := by
  refine CV_run (vf := vf98) rfl rfl ?_
  rw [vf98_start]
  have h1 := h.1
  have h2 := h.2
  simp only [List.length_cons, List.all_cons] at h1 h2
  (repeat (first
    | refine RX_seq ?_
    | refine RX_block ?_
    | ((first | refine RX_reg ?_ | refine RX_cond' ?_ | refine RX_draw0 ?_ | refine RX_draw rfl ?_ | refine RX_skip ?_ | refine RX_gfrz ?_ | refine RX_exit ?_ | refine RX_ret ?_); try (simp only [go_sem, Nat.max_zero, List.isEmpty_cons, Int.reduceToNat, Nat.reducePow, Int.reduceEq, Int.reduceNe, Int.reduceLT, Int.reduceLE, Nat.reduceAdd, Nat.reduceLeDiff, ↓reduceIte, Nat.reduceLT, Nat.reduceMul, Nat.reduceSub, reduceCtorEq, frzLoc, rowCells, vAppM, beq_iff_eq, bne_iff_ne, bne_self_eq_false, beq_self_eq_true, beq_true, beq_false, I, B, w, vf98_res, vf98_keep, h1, h2, hn]))))
theorem e71 {r : D} {x y : D} {rs : List (List D)} (h : Rows3 ([r, x, y] :: rs)) (hn : rs.length ≤ 1073741822) : CV VP 35 [.d (.sl ([r, x, y] :: rs))] [] = some ⟨.agg [.d (I 3), .d (I 0), .d (.sl ([r, x, y] :: rs))], [], [], 0⟩ := by
  have h98 := e98 h (by omega)
  have hall : ∀ z ∈ [r, x, y] :: rs, z.length = 3 := by have := h.2; simpa using this
  have hf := frzRows hall
  rw [List.length_cons] at hf
  have hi : V.impL 0 1 (rowCells ([r, x, y] :: rs)) = rowCells ([r, x, y] :: rs) := impL_d 0 1 _
  generalize rowCells ([r, x, y] :: rs) = C at h98 hf hi
  refine CV_run (vf := vf35) rfl rfl ?_
  rw [vf35_start]
  (repeat (first
    | refine RX_seq ?_
    | refine RX_block ?_
    | ((first | refine RX_reg ?_ | refine RX_cond' ?_ | refine RX_draw0 ?_ | refine RX_draw rfl ?_ | refine RX_skip ?_ | refine RX_gfrz ?_ | refine RX_exit ?_ | refine RX_ret ?_); try (simp only [go_sem, Nat.max_zero, List.isEmpty_cons, Int.reduceToNat, Nat.reducePow, Int.reduceEq, Int.reduceNe, Int.reduceLT, Int.reduceLE, Nat.reduceAdd, Nat.reduceLeDiff, ↓reduceIte, Nat.reduceLT, Nat.reduceMul, Nat.reduceSub, reduceCtorEq, beq_iff_eq, bne_iff_ne, bne_self_eq_false, beq_self_eq_true, beq_true, beq_false, I, B, w, vf35_res, vf35_keep, h98, hf, hi]))))
end Go.Proofs.Ytgiciiknagelhaa
namespace Go.Proofs.Ytgiciiknagelhaa
open Go.VM
end Go.Proofs.Ytgiciiknagelhaa
namespace Go.Proofs.Ytgiciiknagelhaa
open Go.VM
end Go.Proofs.Ytgiciiknagelhaa
namespace Go.Proofs.Ytgiciiknagelhaa
open Go.VM
def Tm.one : List Tm → Int × Bool
  | [u] => if u.op = 1 then (u.val, true) else (0, false)
  | _ => (0, false)
end Go.Proofs.Ytgiciiknagelhaa
namespace Go.Proofs.Ytgiciiknagelhaa
open Go.VM
mutual
def Tm.cmp : Tm → Tm → Int
  | .mk a b ts, .mk x y us => if a < x then -1 else if x < a then 1 else if b < y then -1 else if y < b then 1 else
      if (ts.length : Int) < us.length then -1 else if (us.length : Int) < ts.length then 1 else Tm.cmps ts us
def Tm.cmps : List Tm → List Tm → Int
  | t :: ts, u :: us => if t.cmp u = 0 then Tm.cmps ts us else t.cmp u
  | _, _ => 0
end
theorem Tm.cmps_drop {ts us : List Tm} {i : Nat} {t u : Tm} (h : ts[i]? = some t) (k : us[i]? = some u) : Tm.cmps (ts.drop i) (us.drop i) = if t.cmp u = 0 then Tm.cmps (ts.drop (i + 1)) (us.drop (i + 1)) else t.cmp u := by
  obtain ⟨h1, h2⟩ := List.getElem?_eq_some_iff.1 h
  obtain ⟨k1, k2⟩ := List.getElem?_eq_some_iff.1 k
  rw [List.drop_eq_getElem_cons h1, List.drop_eq_getElem_cons k1, h2, k2, Tm.cmps]
set_option maxHeartbeats 4000000 in
theorem e119 : ∀ (n : Nat) (t u : Tm), SizeOf.sizeOf t < n → t.small → CV VP 167 [t.ag, u.ag] [] = some ⟨.d (I (t.cmp u)), [], [], 0⟩
  | 0, t, u, h, _ => absurd h (Nat.not_lt_zero _)
  | n + 1, .mk a b ts, .mk x y us, hn, hs => by
    have w0 : IntKind.i64.wrap (0 + 1) = 1 := rfl
    have w1 : IntKind.i64.wrap (1 + 1) = 2 := rfl
    have w2 : IntKind.i64.wrap (2 + 1) = 3 := rfl
    simp only [Tm.ag, Tm.op_mk, Tm.val_mk, Tm.args_mk, Tm.cmp]
    obtain ⟨hs1, hs2⟩ := hs
    refine CV_run (vf := vf167) rfl rfl ?_
    rw [vf167_start]
    have fin : ∀ st0, ts.length = us.length → At vf167K1 2 st0 ((.any :: .any :: .any :: .ptr 1 0 :: .any :: .any :: .any :: .any :: .any :: .any :: .any :: .any :: .any :: .any :: .any :: .any :: .any :: .any :: .any :: .any :: .any :: .any :: .any :: .any :: .any :: .any :: .any :: .any :: .any :: .any :: .any :: .any :: .any :: .any :: .any :: .any :: .any :: .any :: .any :: .any :: .any :: .any :: .any :: .d (.sl (ts.map Tm.row)) :: .d (I (ts.length : Nat)) :: .d (I ((0 : Nat) : Int)) :: .any :: .any :: .any :: .any :: .any :: .any :: .any :: .any :: .any :: .any :: .any :: .any :: .any :: .any :: .any :: [])) [[.d (I a), .d (I b), .d (.sl (ts.map Tm.row))], [.d (I x), .d (I y), .d (.sl (us.map Tm.row))]] [] 0 0 →
        RL VP vf167K1 vf167L1 2 st0 (outQ 2 (thn VP ((VCode.reg [⟨some 4, .mov (.c (.d (.lit (.int .i64 0)))), none⟩]).seq .ret) (retQ vf167 0 ⟨.d (I (Tm.cmps ts us)), [], [], 0⟩))) := by
      intro st0 hl hat0
      refine RL_ind (fun m st => ∃ i : Nat, i + m = ts.length ∧ Tm.cmps (ts.drop i) (us.drop i) = Tm.cmps ts us ∧ At vf167K1 2 st ((.any :: .any :: .any :: .ptr 1 0 :: .any :: .any :: .any :: .any :: .any :: .any :: .any :: .any :: .any :: .any :: .any :: .any :: .any :: .any :: .any :: .any :: .any :: .any :: .any :: .any :: .any :: .any :: .any :: .any :: .any :: .any :: .any :: .any :: .any :: .any :: .any :: .any :: .any :: .any :: .any :: .any :: .any :: .any :: .any :: .d (.sl (ts.map Tm.row)) :: .d (I (ts.length : Nat)) :: .d (I (i : Nat)) :: .any :: .any :: .any :: .any :: .any :: .any :: .any :: .any :: .any :: .any :: .any :: .any :: .any :: .any :: .any :: [])) [[.d (I a), .d (I b), .d (.sl (ts.map Tm.row))], [.d (I x), .d (I y), .d (.sl (us.map Tm.row))]] [] 0 0) ?_ ts.length _ ⟨0, Nat.zero_add _, rfl, hat0⟩
      rintro m st ⟨i, hi, hc, hat⟩ ih
      refine RL_at hat rfl rfl (vf167L1_go ?_)
      clear hat hat0
      cases m with
      | zero =>
        have h1 : ¬ i < ts.length := by omega
        rw [List.drop_eq_nil_of_le (by omega), List.drop_eq_nil_of_le (by omega), Tm.cmps] at hc
        rw [← hc]
        (repeat (first
    | refine RX_seq ?_
    | refine RX_block ?_
    | ((first | refine RX_reg ?_ | refine RX_cond' ?_ | refine RX_draw0 ?_ | refine RX_draw rfl ?_ | refine RX_skip ?_ | refine RX_gfrz ?_ | refine RX_exit ?_ | refine RX_ret ?_); try (simp only [go_sem, Nat.max_zero, List.isEmpty_cons, Int.reduceToNat, Nat.reducePow, Int.reduceEq, Int.reduceNe, Int.reduceLT, Int.reduceLE, Nat.reduceAdd, Nat.reduceLeDiff, ↓reduceIte, Nat.reduceLT, Nat.reduceMul, Nat.reduceSub, reduceCtorEq, frzLoc, rowCells, vAppM, beq_iff_eq, bne_iff_ne, bne_self_eq_false, beq_self_eq_true, beq_true, beq_false, I, B, w, vf167_res, vf167_keep, h1]))))
        all_goals simp
      | succ m =>
        have h1 : i < ts.length := by omega
        have h2 : i < us.length := by omega
        obtain ⟨t, ht⟩ : ∃ t, ts[i]? = some t := ⟨_, List.getElem?_eq_getElem h1⟩
        obtain ⟨u, hu⟩ : ∃ u, us[i]? = some u := ⟨_, List.getElem?_eq_getElem h2⟩
        have hrt : (ts.map Tm.row)[i]? = some t.row := by rw [List.getElem?_map, ht]; rfl
        have hru : (us.map Tm.row)[i]? = some u.row := by rw [List.getElem?_map, hu]; rfl
        have h119 := e119 n t u (by
          have := List.sizeOf_lt_of_mem (List.mem_of_getElem? ht)
          simp only [Tm.mk.sizeOf_spec] at hn
          omega) (Tm.smalls_mem hs2 (List.mem_of_getElem? ht))
        rw [Tm.cmps_drop ht hu] at hc
        have hwi := w_nat (i := i) (by omega)
        simp only [Tm.row_eq] at hrt hru
        simp only [Tm.ag] at h119
        by_cases h0 : t.cmp u = 0
        · rw [if_pos h0] at hc
          (repeat (first
    | refine RX_seq ?_
    | refine RX_block ?_
    | ((first | refine RX_reg ?_ | refine RX_cond' ?_ | refine RX_draw0 ?_ | refine RX_draw rfl ?_ | refine RX_skip ?_ | refine RX_gfrz ?_ | refine RX_exit ?_ | refine RX_ret ?_); try (simp only [go_sem, Nat.max_zero, List.isEmpty_cons, Int.reduceToNat, Nat.reducePow, Int.reduceEq, Int.reduceNe, Int.reduceLT, Int.reduceLE, Nat.reduceAdd, Nat.reduceLeDiff, ↓reduceIte, Nat.reduceLT, Nat.reduceMul, Nat.reduceSub, reduceCtorEq, frzLoc, rowCells, vAppM, beq_iff_eq, bne_iff_ne, bne_self_eq_false, beq_self_eq_true, beq_true, beq_false, I, B, w, vf167_res, vf167_keep, List.length_map, h1, h2, hrt, hru, h119, h0, hwi]))))
          exact ih m _ (Nat.lt_succ_self m) ⟨i + 1, by omega, hc, rfl, rfl, rfl, rfl, rfl, rfl⟩
        · rw [if_neg h0] at hc
          rw [← hc]
          (repeat (first
    | refine RX_seq ?_
    | refine RX_block ?_
    | ((first | refine RX_reg ?_ | refine RX_cond' ?_ | refine RX_draw0 ?_ | refine RX_draw rfl ?_ | refine RX_skip ?_ | refine RX_gfrz ?_ | refine RX_exit ?_ | refine RX_ret ?_); try (simp only [go_sem, Nat.max_zero, List.isEmpty_cons, Int.reduceToNat, Nat.reducePow, Int.reduceEq, Int.reduceNe, Int.reduceLT, Int.reduceLE, Nat.reduceAdd, Nat.reduceLeDiff, ↓reduceIte, Nat.reduceLT, Nat.reduceMul, Nat.reduceSub, reduceCtorEq, frzLoc, rowCells, vAppM, beq_iff_eq, bne_iff_ne, bne_self_eq_false, beq_self_eq_true, beq_true, beq_false, I, B, w, vf167_res, vf167_keep, List.length_map, h1, h2, hrt, hru, h119, ibne, h0, hwi]))))
    (repeat' (first
    | refine RX_seq ?_
    | refine RX_block ?_
    | ((first | refine RX_reg ?_ | refine RX_cond' ?_ | refine RX_draw0 ?_ | refine RX_draw rfl ?_ | refine RX_skip ?_ | refine RX_gfrz ?_ | refine RX_exit ?_ | refine RX_ret ?_); try (simp only [go_sem, Nat.max_zero, List.isEmpty_cons, Int.reduceToNat, Nat.reducePow, Int.reduceEq, Int.reduceNe, Int.reduceLT, Int.reduceLE, Nat.reduceAdd, Nat.reduceLeDiff, ↓reduceIte, Nat.reduceLT, Nat.reduceMul, Nat.reduceSub, reduceCtorEq, frzLoc, rowCells, vAppM, bne_self_eq_false, beq_self_eq_true, beq_true, beq_false, I, B, w, ibeq, ibne, bbeq, decide_eq_false_iff_not, decide_not, Bool.not_not, Decidable.not_not, Bool.not_eq_eq_eq_not, gt_iff_lt, ge_iff_le, and_false, false_and, or_self, and_self, vf167_res, vf167_keep, List.length_map, *]))
    | (refine ite_ngo (fun _ => ?_) (fun _ => ?_) <;> try (simp only [go_sem, Nat.max_zero, List.isEmpty_cons, Int.reduceToNat, Nat.reducePow, Int.reduceEq, Int.reduceNe, Int.reduceLT, Int.reduceLE, Nat.reduceAdd, Nat.reduceLeDiff, ↓reduceIte, Nat.reduceLT, Nat.reduceMul, Nat.reduceSub, reduceCtorEq, frzLoc, rowCells, vAppM, bne_self_eq_false, beq_self_eq_true, beq_true, beq_false, I, B, w, ibeq, ibne, bbeq, decide_eq_false_iff_not, decide_not, Bool.not_not, Decidable.not_not, Bool.not_eq_eq_eq_not, gt_iff_lt, ge_iff_le, and_false, false_and, or_self, and_self, vf167_res, vf167_keep, List.length_map, *]))
    | (refine ite_go (fun _ => ?_) (fun _ => ?_) <;> try (simp only [go_sem, Nat.max_zero, List.isEmpty_cons, Int.reduceToNat, Nat.reducePow, Int.reduceEq, Int.reduceNe, Int.reduceLT, Int.reduceLE, Nat.reduceAdd, Nat.reduceLeDiff, ↓reduceIte, Nat.reduceLT, Nat.reduceMul, Nat.reduceSub, reduceCtorEq, frzLoc, rowCells, vAppM, bne_self_eq_false, beq_self_eq_true, beq_true, beq_false, I, B, w, ibeq, ibne, bbeq, decide_eq_false_iff_not, decide_not, Bool.not_not, Decidable.not_not, Bool.not_eq_eq_eq_not, gt_iff_lt, ge_iff_le, and_false, false_and, or_self, and_self, vf167_res, vf167_keep, List.length_map, *]))
    | (refine RL_head ?_; simp only [go_sem, Nat.max_zero, List.isEmpty_cons, Int.reduceToNat, Nat.reducePow, Int.reduceEq, Int.reduceNe, Int.reduceLT, Int.reduceLE, Nat.reduceAdd, Nat.reduceLeDiff, ↓reduceIte, Nat.reduceLT, Nat.reduceMul, Nat.reduceSub, reduceCtorEq, frzLoc, rowCells, vAppM, bne_self_eq_false, beq_self_eq_true, beq_true, beq_false, I, B, w, ibeq, ibne, bbeq, decide_eq_false_iff_not, decide_not, Bool.not_not, Decidable.not_not, Bool.not_eq_eq_eq_not, gt_iff_lt, ge_iff_le, and_false, false_and, or_self, and_self, vf167_res, vf167_keep, List.length_map, *, St.head, forget, vf167K0, RLK_some]; refine vf167L0_go ?_)
    | refine RX_loop ?_))
    exact fin _ (by omega) ⟨rfl, rfl, rfl, rfl, rfl, rfl⟩
end Go.Proofs.Ytgiciiknagelhaa
namespace Go.Proofs.Ytgiciiknagelhaa
open Go.VM
def IsS (r : List D) : Prop := ∃ t : Tm, t.small ∧ r = t.row
def IsSs (rows : List (List D)) : Prop := ∃ ts : List Tm, Tm.smalls ts ∧ rows = ts.map Tm.row
theorem IsSs.nil : IsSs [] := ⟨[], trivial, rfl⟩
theorem IsSs.cons {r : List D} {rs : List (List D)} (h : IsS r) (hs : IsSs rs) : IsSs (r :: rs) := by
  obtain ⟨t, h1, rfl⟩ := h
  obtain ⟨ts, h2, rfl⟩ := hs
  exact ⟨t :: ts, ⟨h1, h2⟩, rfl⟩
theorem IsS.mk {a b : Int} {rows : List (List D)} (h : IsSs rows) (hl : rows.length < 1000) : IsS [I a, I b, .sl rows] := by
  obtain ⟨ts, h1, rfl⟩ := h
  rw [List.length_map] at hl
  exact ⟨.mk a b ts, ⟨by omega, h1⟩, (Tm.row_mk a b ts).symm⟩
end Go.Proofs.Ytgiciiknagelhaa
