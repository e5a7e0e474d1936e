/- deduce.Can on the machine, and the law DeduceLearns: it answers true. Conditions: none. -/
import Derived.Test.YtgiciiknagelhaaVe
import Derived.Test.YtgiciiknagelhaaDv7
set_option linter.unusedSimpArgs false
set_option linter.unusedVariables false
set_option maxRecDepth 100000
set_option maxHeartbeats 4000000
namespace Go.Proofs.Ytgiciiknagelhaa
open Go.VM
theorem entersN {k : Nat} {vf : VFunc} (h : CFunc Try.prog k vf) (args : Array Value) (w : World) : (callFunc k args).run Try.prog w = .ok (.enter k args) w := by
  obtain ⟨fn, code, h1, h2, h3, _⟩ := h.ex
  exact run_callFunc h1 (by rw [h2]; rfl) h3
theorem sqN_ok : SqOk Try.prog sqN := fun gf caps items h => by
  obtain ⟨rfl, t, hs, hd, rfl, rfl⟩ := sqN_some h
  exact ⟨entersN (compS_ok vf185_ok), fun F lb hlb => itr_nodes hs hd hlb⟩
def rT1 : FuncId → Option (VFunc × RCode) := fun f => match Nat.beq f 155 with
  | true => some rc155
  | false => none
theorem rT1_some {f : FuncId} {p : VFunc × RCode} (h : rT1 f = some p) : f = 155 ∧ p = rc155 := by
  unfold rT1 at h
  split at h
  · rename_i hf; exact ⟨Nat.eq_of_beq_eq_true hf, by simpa using h.symm⟩
  · cases h
theorem rT1_ok (f : FuncId) (vf : VFunc) (rc : RCode) (h : rT1 f = some (vf, rc)) : CFuncR Try.prog f vf rc := by
  obtain ⟨rfl, hp⟩ := rT1_some h
  exact compFnR_ok (by rw [rc155_ok, ← hp])
def rT2 : FuncId → Option (VFunc × RCode) := fun f => match Nat.beq f 91 with
  | true => some rc91
  | false => none
theorem rT2_some {f : FuncId} {p : VFunc × RCode} (h : rT2 f = some p) : f = 91 ∧ p = rc91 := by
  unfold rT2 at h
  split at h
  · rename_i hf; exact ⟨Nat.eq_of_beq_eq_true hf, by simpa using h.symm⟩
  · cases h
theorem rT2_ok (f : FuncId) (vf : VFunc) (rc : RCode) (h : rT2 f = some (vf, rc)) : CFuncR Try.prog f vf rc := by
  obtain ⟨rfl, hp⟩ := rT2_some h
  exact compFnR_ok (by rw [rc91_ok, ← hp])
noncomputable def VPN : VProg := ⟨VPS.fn, orN (natR VPS sqN rT1) VPS.nat⟩
theorem VPN_ok : CProg Try.prog VPN := cprog_or VPS_ok (natR_ok VPS_ok (by kernel_rfl) sqN_ok rT1_ok) (natR_fn rT1_ok)
noncomputable def VPV : VProg := ⟨VPN.fn, orN (natR VPN sqN rT2) VPN.nat⟩
theorem VPV_ok : CProg Try.prog VPV := cprog_or VPN_ok (natR_ok VPN_ok (by kernel_rfl) sqN_ok rT2_ok) (natR_fn rT2_ok)
noncomputable def VPC : VProg := ⟨VPV.fn, orN (cloNat VPV) VPV.nat⟩
theorem VPC_ok : CProg Try.prog VPC := cprog_or VPV_ok (cloNat_ok VPV_ok) cloNat_fn
theorem natR_f {VP : VProg} {sq : Sq} {T : FuncId → Option (VFunc × RCode)} {f : FuncId} {a : List V} {b : List (List V)} {r : Ret} (h : natR VP sq T f a b = some r) : ∃ p, T f = some p := by
  unfold natR at h
  split at h
  · rename_i ht; exact ⟨_, ht⟩
  · cases h
theorem sort_no {f : FuncId} (h : f ≠ 187) (a : List V) (b : List (List V)) : sortNat f a b = none := by
  cases hs : sortNat f a b with
  | none => rfl
  | some r => exact absurd (sortNat_f hs) h
theorem upN {f : FuncId} {a : List V} {b : List (List V)} {r : Ret} (h : CV VPS f a b = some r) : CV VPN f a b = some r :=
  CV_moreI (fun f a b r h => by
    obtain ⟨p, hp⟩ := natR_f h
    obtain ⟨rfl, _⟩ := rT1_some hp
    refine ⟨.inl (by decide), rfl, fun a b => ?_⟩
    show orN sortNat VP.nat 155 a b = none
    unfold orN; rw [sort_no (by decide)]; rfl) h
theorem upV {f : FuncId} {a : List V} {b : List (List V)} {r : Ret} (h : CV VPN f a b = some r) : CV VPV f a b = some r :=
  CV_moreI (fun f a b r h => by
    obtain ⟨p, hp⟩ := natR_f h
    obtain ⟨rfl, _⟩ := rT2_some hp
    refine ⟨.inl (by decide), rfl, fun a b => ?_⟩
    show orN (natR VPS sqN rT1) (orN sortNat VP.nat) 91 a b = none
    unfold orN; rw [sort_no (by decide)]; rfl) h
theorem upC {f : FuncId} {a : List V} {b : List (List V)} {r : Ret} (h : CV VPV f a b = some r) : CV VPC f a b = some r :=
  CV_moreI (fun f a b r h => by
    obtain ⟨rfl, _⟩ := cloNat_some h
    refine ⟨.inl (by decide), rfl, fun a b => ?_⟩
    show orN (natR VPN sqN rT2) (orN (natR VPS sqN rT1) (orN sortNat VP.nat)) 31 a b = none
    unfold orN; rw [sort_no (by decide)]; rfl) h
theorem upVC {f : FuncId} {a : List V} {b : List (List V)} {r : Ret} (h : CV VP f a b = some r) : CV VPC f a b = some r := upC (upV (upN (upS h)))
theorem r155 {args : List V} {blks : List (List V)} {ret : Ret} (h : RXR VPS sqN rc155.2 (rc155.1.start args blks) fun e st => (e = .normal ∨ e = .ret) ∧ st.base = blks.length ∧ vRet rc155.1 blks.length st = some ret) : CV VPN 155 args blks = some ret :=
  CV_nat (by
    show orN (natR VPS sqN rT1) VPS.nat 155 args blks = some ret
    unfold orN
    rw [show natR VPS sqN rT1 155 args blks = vRunR (X VPS) sqN rc155.1 rc155.2 args blks from rfl, runR_of h])
theorem r91 {args : List V} {blks : List (List V)} {ret : Ret} (h : RXR VPN sqN rc91.2 (rc91.1.start args blks) fun e st => (e = .normal ∨ e = .ret) ∧ st.base = blks.length ∧ vRet rc91.1 blks.length st = some ret) : CV VPV 91 args blks = some ret :=
  CV_nat (by
    show orN (natR VPN sqN rT2) VPN.nat 91 args blks = some ret
    unfold orN
    rw [show natR VPN sqN rT2 91 args blks = vRunR (X VPN) sqN rc91.1 rc91.2 args blks from rfl, runR_of h])
end Go.Proofs.Ytgiciiknagelhaa
set_option linter.unusedVariables false
set_option maxRecDepth 100000
set_option maxHeartbeats 4000000
namespace Go.Proofs.Ytgiciiknagelhaa
open Go.VM
theorem w1 (n : Nat) (h : n ≤ 600) : IntKind.i64.wrap ((n : Int) + 1) = ((n + 1 : Nat) : Int) := by
  rw [IntKind.wrap_i64]; omega
theorem rc155_start (bl : List (List V)) (x0 : V) : rc155.1.start [x0] bl = ⟨[x0, .any, .any, .any, .any, .any, .any, .any, .any, .any, .any, .any, .any], bl, [], 0, bl.length, 0⟩ := rfl
def body155 : VCode := .block 1 (.seq (.reg [⟨some 8, .load (.t 3) 1 false, none⟩, ⟨some 9, .bin .add (.t 8) (.c (.d (.lit (.int .i64 1)))), none⟩, ⟨none, .store (.t 3) (.t 9) 1, none⟩]) (.seq (.reg [⟨some 10, .load (.t 3) 1 false, none⟩, ⟨some 11, .bin .gtr (.t 10) (.c (.d (.lit (.int .i64 600)))), none⟩]) (.cond (.t 11) (.exit 0) .skip)))
theorem loop155 (b0 : List V) (x0 x4 x5 : V) (hx : V.ltbL 3 b0 = true) : ∀ (its : List (List V)) (n : Nat) (Q : VExit → St → Prop), (∀ it ∈ its, it.length = 2) → n + its.length ≤ 600 →
    Q .normal ⟨[x0, .ptr 0 0, .d (I 0), .ptr 1 0, x4, x5, .any, .any, .any, .any, .any, .any, .any], [b0, [.d (I ((n + its.length : Nat) : Int))], []], [], 0, 0, 0⟩ →
    RFor VPS .skip body155 [6, 7] [x0, .ptr 0 0, .d (I 0), .ptr 1 0, x4, x5, .any, .any, .any, .any, .any, .any, .any] 3 its ⟨[x0, .ptr 0 0, .d (I 0), .ptr 1 0, x4, x5, .any, .any, .any, .any, .any, .any, .any], [b0, [.d (I (n : Nat))], []], [], 0, 0, 0⟩ Q
  | [], n, Q, _, _, h => by simpa [RFor] using h
  | it :: its, n, Q, hl, hn, h => by
    have h2 := hl it List.mem_cons_self
    simp only [List.length_cons] at hn
    match it, h2 with
    | [x, y], _ =>
    refine ⟨rfl, ?_⟩
    have hw := w1 n (by omega)
    have hc : ¬ (((n + 1 : Nat) : Int) > 600) := by omega
    have IH := loop155 b0 x0 x4 x5 hx its (n + 1) Q (fun i hi => hl i (List.mem_cons_of_mem _ hi)) (by omega) (by
      rw [List.length_cons, show n + (its.length + 1) = n + 1 + its.length by omega] at h
      exact h)
    unfold body155
    (repeat (first
    | refine RX_seq ?_
    | refine RX_block ?_
    | ((first | refine RX_reg ?_ | refine RX_cond' ?_ | refine RX_draw0 ?_ | refine RX_draw rfl ?_ | refine RX_skip ?_ | refine RX_gfrz ?_ | refine RX_exit ?_ | refine RX_ret ?_); try (simp only [go_sem, Nat.max_zero, List.isEmpty_cons, Int.reduceToNat, Nat.reducePow, Int.reduceEq, Int.reduceNe, Int.reduceLT, Int.reduceLE, Nat.reduceAdd, Nat.reduceLeDiff, ↓reduceIte, Nat.reduceLT, Nat.reduceMul, Nat.reduceSub, reduceCtorEq, frzLoc, rowCells, vAppM, beq_iff_eq, bne_iff_ne, bne_self_eq_false, beq_self_eq_true, beq_true, beq_false, I, B, w, setPs, List.set, hw, hc, hx, List.take, List.all]))))
    exact IH
theorem itemsT_two (t : Tm) : ∀ it ∈ itemsT t, it.length = 2 := fun it h => by
  unfold itemsT at h
  rw [List.mem_map] at h
  obtain ⟨p, _, rfl⟩ := h
  rfl
theorem itemsT_len (t : Tm) : (itemsT t).length = (nodesD 1 t).length := by unfold itemsT; rw [List.length_map]
theorem e155 (t : Tm) (hs : t.small) (hd : dep t ≤ 900000) (hn : (nodesD 1 t).length ≤ 600) : CV VPN 155 [t.ag] [] = some ⟨.d (I ((nodesD 1 t).length : Nat)), [], [], 0⟩ := by
  have hsq := sqN_eq hs hd
  have hlen := itemsT_len t
  have h2 := itemsT_two t
  obtain ⟨IT, hIT⟩ : ∃ IT, itemsT t = IT := ⟨_, rfl⟩
  rw [hIT] at hsq hlen h2
  obtain ⟨o, v, us⟩ := t
  have h156 := upS (e156 (I o) (I v) (.sl (us.map Tm.row)))
  have hag : (Tm.mk o v us).ag = .agg [.d (I o), .d (I v), .d (.sl (us.map Tm.row))] := rfl
  have hrow : (Tm.mk o v us).row = [I o, I v, .sl (us.map Tm.row)] := by rw [Tm.row, Tm.rows_eq]
  rw [hrow] at hsq
  rw [hag]
  refine r155 ?_
  rw [rc155_start]
  simp only [rc155]
  refine RXR_seq (RXR_base rfl ?_)
  (repeat (first
    | refine RX_seq ?_
    | refine RX_block ?_
    | ((first | refine RX_reg ?_ | refine RX_cond' ?_ | refine RX_draw0 ?_ | refine RX_draw rfl ?_ | refine RX_skip ?_ | refine RX_gfrz ?_ | refine RX_exit ?_ | refine RX_ret ?_); try (simp only [go_sem, Nat.max_zero, List.isEmpty_cons, Int.reduceToNat, Nat.reducePow, Int.reduceEq, Int.reduceNe, Int.reduceLT, Int.reduceLE, Nat.reduceAdd, Nat.reduceLeDiff, ↓reduceIte, Nat.reduceLT, Nat.reduceMul, Nat.reduceSub, reduceCtorEq, frzLoc, rowCells, vAppM, beq_iff_eq, bne_iff_ne, bne_self_eq_false, beq_self_eq_true, beq_true, beq_false, I, B, w, h156]))))
  refine RXR_seq (RXR_base rfl ?_)
  (repeat (first
    | refine RX_seq ?_
    | refine RX_block ?_
    | ((first | refine RX_reg ?_ | refine RX_cond' ?_ | refine RX_draw0 ?_ | refine RX_draw rfl ?_ | refine RX_skip ?_ | refine RX_gfrz ?_ | refine RX_exit ?_ | refine RX_ret ?_); try (simp only [go_sem, Nat.max_zero, List.isEmpty_cons, Int.reduceToNat, Nat.reducePow, Int.reduceEq, Int.reduceNe, Int.reduceLT, Int.reduceLE, Nat.reduceAdd, Nat.reduceLeDiff, ↓reduceIte, Nat.reduceLT, Nat.reduceMul, Nat.reduceSub, reduceCtorEq, frzLoc, rowCells, vAppM, beq_iff_eq, bne_iff_ne, bne_self_eq_false, beq_self_eq_true, beq_true, beq_false, I, B, w, h156]))))
  refine RXR_seq (RXR_seq (RXR_base rfl ?_))
  (repeat (first
    | refine RX_seq ?_
    | refine RX_block ?_
    | ((first | refine RX_reg ?_ | refine RX_cond' ?_ | refine RX_draw0 ?_ | refine RX_draw rfl ?_ | refine RX_skip ?_ | refine RX_gfrz ?_ | refine RX_exit ?_ | refine RX_ret ?_); try (simp only [go_sem, Nat.max_zero, List.isEmpty_cons, Int.reduceToNat, Nat.reducePow, Int.reduceEq, Int.reduceNe, Int.reduceLT, Int.reduceLE, Nat.reduceAdd, Nat.reduceLeDiff, ↓reduceIte, Nat.reduceLT, Nat.reduceMul, Nat.reduceSub, reduceCtorEq, frzLoc, rowCells, vAppM, beq_iff_eq, bne_iff_ne, bne_self_eq_false, beq_self_eq_true, beq_true, beq_false, I, B, w, h156]))))
  refine RXR_block ?_
  refine RXR_for (gf := 185) (caps := [.ptr 2 0]) (items := IT) rfl hsq rfl ?_
  refine loop155 _ _ _ _ rfl IT 0 _ h2 (by omega) ?_
  rw [Nat.zero_add, hlen]
  refine RXR_base rfl ?_
  (repeat (first
    | refine RX_seq ?_
    | refine RX_block ?_
    | ((first | refine RX_reg ?_ | refine RX_cond' ?_ | refine RX_draw0 ?_ | refine RX_draw rfl ?_ | refine RX_skip ?_ | refine RX_gfrz ?_ | refine RX_exit ?_ | refine RX_ret ?_); try (simp only [go_sem, Nat.max_zero, List.isEmpty_cons, Int.reduceToNat, Nat.reducePow, Int.reduceEq, Int.reduceNe, Int.reduceLT, Int.reduceLE, Nat.reduceAdd, Nat.reduceLeDiff, ↓reduceIte, Nat.reduceLT, Nat.reduceMul, Nat.reduceSub, reduceCtorEq, frzLoc, rowCells, vAppM, beq_iff_eq, bne_iff_ne, bne_self_eq_false, beq_self_eq_true, beq_true, beq_false, I, B, w, h156]))))
theorem rc91_start (bl : List (List V)) (x0 : V) : rc91.1.start [x0] bl = ⟨[x0, .any, .any, .any, .any, .any, .any, .any, .any, .any, .any, .any, .any, .any, .any, .any, .any, .any, .any], bl, [], 0, bl.length, 0⟩ := rfl
def as91 : VCode := .seq (.reg [⟨some 3, .box [.d (.lit (.int .i64 0)), .d (.lit (.int .i64 0)), .nil], none⟩, ⟨none, .store (.t 3) (.t 10) 3, none⟩]) (.reg [⟨some 4, .mov (.t 11), none⟩])
def body91 : VCode := .block 1 (.seq (.reg [⟨some 12, .mov (.t 4), none⟩, ⟨some 13, .bin .gtr (.t 12) (.c (.d (.lit (.int .i64 60)))), none⟩, ⟨some 14, .mov (.t 13), none⟩, ⟨some 15, .load (.t 3) 3 true, some (14, false)⟩, ⟨some 16, .call 157 [.t 15], some (14, false)⟩, ⟨some 17, .un .not (.t 16), some (14, false)⟩, ⟨some 18, .pick (.t 14) (.c (.d (.lit (.bool true)))) (.t 17), none⟩]) (.cond (.t 18) (.seq (.reg [⟨none, .store (.t 2) (.c (.d (.lit (.bool false)))) 1, none⟩]) .ret) .skip))
theorem loop91 (b0 : List V) (x0 x5 x6 x7 x8 x9 : V) (hx : V.ltbL 3 b0 = true) : ∀ (ps : List (Tm × Nat)) (Q : VExit → St → Prop), (∀ p ∈ ps, p.1.small ∧ p.2 ≤ 60 ∧ sndF p.1 = true) →
    Q .normal ⟨[x0, .ptr 0 0, .ptr 1 0, .any, .any, x5, x6, x7, x8, x9, .any, .any, .any, .any, .any, .any, .any, .any, .any], [b0, [.d (B false)], []], [], 0, 0, 0⟩ →
    RFor VPN as91 body91 [10, 11] [x0, .ptr 0 0, .ptr 1 0, .any, .any, x5, x6, x7, x8, x9, .any, .any, .any, .any, .any, .any, .any, .any, .any] 3 (ps.map fun p => [p.1.ag, .d (I (p.2 : Nat))]) ⟨[x0, .ptr 0 0, .ptr 1 0, .any, .any, x5, x6, x7, x8, x9, .any, .any, .any, .any, .any, .any, .any, .any, .any], [b0, [.d (B false)], []], [], 0, 0, 0⟩ Q
  | [], Q, _, h => h
  | (t, d) :: ps, Q, hp, h => by
    obtain ⟨hs, hd, hsn⟩ := hp (t, d) List.mem_cons_self
    have IH := loop91 b0 x0 x5 x6 x7 x8 x9 hx ps Q (fun p h => hp p (List.mem_cons_of_mem _ h)) h
    have h157 := upN (upS (e157 t hs))
    simp only at hs hd hsn
    rw [hsn] at h157
    obtain ⟨o, v, us⟩ := t
    have hag : (Tm.mk o v us).ag = .agg [.d (I o), .d (I v), .d (.sl (us.map Tm.row))] := rfl
    rw [hag] at h157
    have hc : ¬ ((d : Int) > 60) := by omega
    rw [List.map_cons]
    refine ⟨rfl, ?_⟩
    simp only [hag]
    unfold as91 body91
    (repeat (first
    | refine RX_seq ?_
    | refine RX_block ?_
    | ((first | refine RX_reg ?_ | refine RX_cond' ?_ | refine RX_draw0 ?_ | refine RX_draw rfl ?_ | refine RX_skip ?_ | refine RX_gfrz ?_ | refine RX_exit ?_ | refine RX_ret ?_); try (simp only [go_sem, Nat.max_zero, List.isEmpty_cons, Int.reduceToNat, Nat.reducePow, Int.reduceEq, Int.reduceNe, Int.reduceLT, Int.reduceLE, Nat.reduceAdd, Nat.reduceLeDiff, ↓reduceIte, Nat.reduceLT, Nat.reduceMul, Nat.reduceSub, reduceCtorEq, frzLoc, rowCells, vAppM, beq_iff_eq, bne_iff_ne, bne_self_eq_false, beq_self_eq_true, beq_true, beq_false, I, B, w, setPs, List.set, h157, hc, hx, List.take, List.all]))))
    exact IH
mutual
theorem subs_sm : ∀ (t x : Tm), t.small → x ∈ subs t → x.small
  | .mk o v ts, x, h, hx => by
    rw [subs] at hx
    rcases List.mem_cons.1 hx with rfl | hx
    · exact h
    · rw [Tm.small] at h; exact subsL_sm ts x h.2 hx
theorem subsL_sm : ∀ (ts : List Tm) (x : Tm), Tm.smalls ts → x ∈ subsL ts → x.small
  | [], x, _, hx => by simp [subsL] at hx
  | t :: ts, x, h, hx => by
    rw [Tm.smalls] at h
    rw [subsL, List.mem_append] at hx
    exact hx.elim (fun q => subs_sm t x h.1 q) fun q => subsL_sm ts x h.2 q
end
theorem e91 (t : Tm) (hs : t.small) (hv : Vld t) : CV VPV 91 [t.ag] [] = some ⟨.d (B true), [], [], 0⟩ := by
  have hvf := (vldF_iff t).2 hv
  unfold vldF at hvf
  rw [Bool.and_eq_true, decide_eq_true_eq, List.all_eq_true] at hvf
  obtain ⟨hn, hall⟩ := hvf
  have hd : dep t ≤ 900000 := by
    have := (nodesD_dep t 1 60).1 fun p hp => by have := hall p hp; rw [Bool.and_eq_true, decide_eq_true_eq] at this; exact this.1
    omega
  have h155 := e155 t hs hd hn
  have hsq := sqN_eq hs hd
  have hp : ∀ p ∈ nodesD 1 t, p.1.small ∧ p.2 ≤ 60 ∧ sndF p.1 = true := fun p hp => by
    have := hall p hp
    rw [Bool.and_eq_true, decide_eq_true_eq] at this
    refine ⟨subs_sm t p.1 hs ?_, this⟩
    rw [← nodesD_fst t 1]
    exact List.mem_map_of_mem hp
  have hc : ¬ (((nodesD 1 t).length : Int) > 600) := by omega
  obtain ⟨len, hlen⟩ : ∃ len : Int, ((nodesD 1 t).length : Int) = len := ⟨_, rfl⟩
  rw [hlen] at h155 hc
  unfold itemsT at hsq
  generalize nodesD 1 t = IT at hsq hp
  obtain ⟨o, v, us⟩ := t
  have h156 := upN (upS (e156 (I o) (I v) (.sl (us.map Tm.row))))
  have hag : (Tm.mk o v us).ag = .agg [.d (I o), .d (I v), .d (.sl (us.map Tm.row))] := rfl
  have hrow : (Tm.mk o v us).row = [I o, I v, .sl (us.map Tm.row)] := by rw [Tm.row, Tm.rows_eq]
  rw [hrow] at hsq
  rw [hag] at h155 ⊢
  clear hall hn hlen hv hs hd
  refine r91 ?_
  rw [rc91_start]
  simp only [rc91]
  refine RXR_seq (RXR_base rfl ?_)
  (repeat (first
    | refine RX_seq ?_
    | refine RX_block ?_
    | ((first | refine RX_reg ?_ | refine RX_cond' ?_ | refine RX_draw0 ?_ | refine RX_draw rfl ?_ | refine RX_skip ?_ | refine RX_gfrz ?_ | refine RX_exit ?_ | refine RX_ret ?_); try (simp only [go_sem, Nat.max_zero, List.isEmpty_cons, Int.reduceToNat, Nat.reducePow, Int.reduceEq, Int.reduceNe, Int.reduceLT, Int.reduceLE, Nat.reduceAdd, Nat.reduceLeDiff, ↓reduceIte, Nat.reduceLT, Nat.reduceMul, Nat.reduceSub, reduceCtorEq, frzLoc, rowCells, vAppM, beq_iff_eq, bne_iff_ne, bne_self_eq_false, beq_self_eq_true, beq_true, beq_false, I, B, w, h156]))))
  refine RXR_seq (RXR_base rfl ?_)
  (repeat (first
    | refine RX_seq ?_
    | refine RX_block ?_
    | ((first | refine RX_reg ?_ | refine RX_cond' ?_ | refine RX_draw0 ?_ | refine RX_draw rfl ?_ | refine RX_skip ?_ | refine RX_gfrz ?_ | refine RX_exit ?_ | refine RX_ret ?_); try (simp only [go_sem, Nat.max_zero, List.isEmpty_cons, Int.reduceToNat, Nat.reducePow, Int.reduceEq, Int.reduceNe, Int.reduceLT, Int.reduceLE, Nat.reduceAdd, Nat.reduceLeDiff, ↓reduceIte, Nat.reduceLT, Nat.reduceMul, Nat.reduceSub, reduceCtorEq, frzLoc, rowCells, vAppM, beq_iff_eq, bne_iff_ne, bne_self_eq_false, beq_self_eq_true, beq_true, beq_false, I, B, w, h155, hc]))))
  refine RXR_seq (RXR_seq (RXR_base rfl ?_))
  (repeat (first
    | refine RX_seq ?_
    | refine RX_block ?_
    | ((first | refine RX_reg ?_ | refine RX_cond' ?_ | refine RX_draw0 ?_ | refine RX_draw rfl ?_ | refine RX_skip ?_ | refine RX_gfrz ?_ | refine RX_exit ?_ | refine RX_ret ?_); try (simp only [go_sem, Nat.max_zero, List.isEmpty_cons, Int.reduceToNat, Nat.reducePow, Int.reduceEq, Int.reduceNe, Int.reduceLT, Int.reduceLE, Nat.reduceAdd, Nat.reduceLeDiff, ↓reduceIte, Nat.reduceLT, Nat.reduceMul, Nat.reduceSub, reduceCtorEq, frzLoc, rowCells, vAppM, beq_iff_eq, bne_iff_ne, bne_self_eq_false, beq_self_eq_true, beq_true, beq_false, I, B, w, h156]))))
  refine RXR_block ?_
  refine RXR_for (gf := 185) (caps := [.ptr 2 0]) rfl hsq rfl ?_
  refine loop91 _ _ _ _ _ _ _ rfl IT _ hp ?_
  refine RXR_base rfl ?_
  (repeat (first
    | refine RX_seq ?_
    | refine RX_block ?_
    | ((first | refine RX_reg ?_ | refine RX_cond' ?_ | refine RX_draw0 ?_ | refine RX_draw rfl ?_ | refine RX_skip ?_ | refine RX_gfrz ?_ | refine RX_exit ?_ | refine RX_ret ?_); try (simp only [go_sem, Nat.max_zero, List.isEmpty_cons, Int.reduceToNat, Nat.reducePow, Int.reduceEq, Int.reduceNe, Int.reduceLT, Int.reduceLE, Nat.reduceAdd, Nat.reduceLeDiff, ↓reduceIte, Nat.reduceLT, Nat.reduceMul, Nat.reduceSub, reduceCtorEq, frzLoc, rowCells, vAppM, beq_iff_eq, bne_iff_ne, bne_self_eq_false, beq_self_eq_true, beq_true, beq_false, I, B, w, h156]))))
end Go.Proofs.Ytgiciiknagelhaa
set_option linter.unusedVariables false
set_option maxRecDepth 100000
set_option maxHeartbeats 4000000
namespace Go.Proofs.Ytgiciiknagelhaa
open Go.VM
theorem e93 (t : Tm) (hs : t.small) (hv : Vld t) : CV VPV 93 [t.ag] [] = some ⟨.d (B false), [], [], 0⟩ := by
  have h91 := e91 t hs hv
  obtain ⟨o, v, us⟩ := t
  have hag : (Tm.mk o v us).ag = .agg [.d (I o), .d (I v), .d (.sl (us.map Tm.row))] := rfl
  rw [hag] at h91 ⊢
  refine CV_run (vf := vf93) rfl rfl ?_
  rw [vf93_start]
  (repeat (first
    | refine RX_seq ?_
    | refine RX_block ?_
    | ((first | refine RX_reg ?_ | refine RX_cond' ?_ | refine RX_draw0 ?_ | refine RX_draw rfl ?_ | refine RX_skip ?_ | refine RX_gfrz ?_ | refine RX_exit ?_ | refine RX_ret ?_); try (simp only [go_sem, Nat.max_zero, List.isEmpty_cons, Int.reduceToNat, Nat.reducePow, Int.reduceEq, Int.reduceNe, Int.reduceLT, Int.reduceLE, Nat.reduceAdd, Nat.reduceLeDiff, ↓reduceIte, Nat.reduceLT, Nat.reduceMul, Nat.reduceSub, reduceCtorEq, frzLoc, rowCells, vAppM, beq_iff_eq, bne_iff_ne, bne_self_eq_false, beq_self_eq_true, beq_true, beq_false, I, B, w, vf93_res, vf93_keep, h91]))))
set_option maxHeartbeats 8000000 in
theorem e158v (ts : List Tm) (hn : ts.length < 1099511627776) (hp : ∀ u ∈ ts, CV VPV 93 [u.ag] [] = some ⟨.d (B false), [], [], 0⟩) :
    CV VPV 158 [.d (.sl (ts.map Tm.row)), .fn 93 []] [] = some ⟨.d (I (-1)), [], [], 0⟩ := by
  refine CV_run (vf := vf158) rfl rfl ?_
  rw [vf158_start]
  (repeat (first
    | refine RX_seq ?_
    | refine RX_block ?_
    | ((first | refine RX_reg ?_ | refine RX_cond' ?_ | refine RX_draw0 ?_ | refine RX_draw rfl ?_ | refine RX_skip ?_ | refine RX_gfrz ?_ | refine RX_exit ?_ | refine RX_ret ?_); try (simp only [go_sem, Nat.max_zero, List.isEmpty_cons, Int.reduceToNat, Nat.reducePow, Int.reduceEq, Int.reduceNe, Int.reduceLT, Int.reduceLE, Nat.reduceAdd, Nat.reduceLeDiff, ↓reduceIte, Nat.reduceLT, Nat.reduceMul, Nat.reduceSub, reduceCtorEq, frzLoc, rowCells, vAppM, beq_iff_eq, bne_iff_ne, bne_self_eq_false, beq_self_eq_true, beq_true, beq_false, I, B, w, vf158_res, vf158_keep, List.length_map]))))
  refine RX_loopN (n := 0) rfl ?_
  refine RL_ind (fun m st => ∃ i : Nat, i + m = ts.length ∧ At vf158K0 0 st ((.d (.sl (ts.map Tm.row)) :: .fn 93 [] :: .any :: .any :: .any :: .any :: .any :: .d (I (ts.length : Nat)) :: .d (I (i : Nat)) :: .any :: .any :: .any :: .any :: .any :: .any :: .any :: .any :: .any :: .any :: [])) [] [] 0 0) ?_ ts.length _ ⟨0, Nat.zero_add _, ⟨rfl, rfl, rfl, rfl, rfl, rfl⟩⟩
  rintro m st ⟨i, hi, hat⟩ ih
  refine RL_at hat rfl rfl (vf158L0_go ?_)
  clear hat
  cases m with
  | zero =>
    have h1 : ¬ i < ts.length := by omega
    (repeat (first
    | refine RX_seq ?_
    | refine RX_block ?_
    | ((first | refine RX_reg ?_ | refine RX_cond' ?_ | refine RX_draw0 ?_ | refine RX_draw rfl ?_ | refine RX_skip ?_ | refine RX_gfrz ?_ | refine RX_exit ?_ | refine RX_ret ?_); try (simp only [go_sem, Nat.max_zero, List.isEmpty_cons, Int.reduceToNat, Nat.reducePow, Int.reduceEq, Int.reduceNe, Int.reduceLT, Int.reduceLE, Nat.reduceAdd, Nat.reduceLeDiff, ↓reduceIte, Nat.reduceLT, Nat.reduceMul, Nat.reduceSub, reduceCtorEq, frzLoc, rowCells, vAppM, beq_iff_eq, bne_iff_ne, bne_self_eq_false, beq_self_eq_true, beq_true, beq_false, I, B, w, vf158_res, vf158_keep, h1]))))
  | succ m =>
    have h1 : i < ts.length := by omega
    obtain ⟨t, ht⟩ : ∃ t, ts[i]? = some t := ⟨_, List.getElem?_eq_getElem h1⟩
    have hrt : (ts.map Tm.row)[i]? = some t.row := by rw [List.getElem?_map, ht]; rfl
    have hpt := hp t (List.mem_of_getElem? ht)
    have hwi := w_nat (i := i) (by omega)
    simp only [Tm.row_eq] at hrt
    simp only [Tm.ag] at hpt
    (repeat (first
    | refine RX_seq ?_
    | refine RX_block ?_
    | ((first | refine RX_reg ?_ | refine RX_cond' ?_ | refine RX_draw0 ?_ | refine RX_draw rfl ?_ | refine RX_skip ?_ | refine RX_gfrz ?_ | refine RX_exit ?_ | refine RX_ret ?_); try (simp only [go_sem, Nat.max_zero, List.isEmpty_cons, Int.reduceToNat, Nat.reducePow, Int.reduceEq, Int.reduceNe, Int.reduceLT, Int.reduceLE, Nat.reduceAdd, Nat.reduceLeDiff, ↓reduceIte, Nat.reduceLT, Nat.reduceMul, Nat.reduceSub, reduceCtorEq, frzLoc, rowCells, vAppM, beq_iff_eq, bne_iff_ne, bne_self_eq_false, beq_self_eq_true, beq_true, beq_false, I, B, w, vf158_res, vf158_keep, List.length_map, h1, hrt, hpt, hwi]))))
    exact ih m _ (Nat.lt_succ_self m) ⟨i + 1, by omega, rfl, rfl, rfl, rfl, rfl, rfl⟩
theorem e92v (ts : List Tm) (hn : ts.length < 1099511627776) (hp : ∀ u ∈ ts, CV VPV 93 [u.ag] [] = some ⟨.d (B false), [], [], 0⟩) :
    CV VPV 92 [.d (.sl (ts.map Tm.row)), .fn 93 []] [] = some ⟨.d (B false), [], [], 0⟩ := by
  have h := e158v ts hn hp
  refine CV_run (vf := vf92) rfl rfl ?_
  rw [vf92_start]
  (repeat (first
    | refine RX_seq ?_
    | refine RX_block ?_
    | ((first | refine RX_reg ?_ | refine RX_cond' ?_ | refine RX_draw0 ?_ | refine RX_draw rfl ?_ | refine RX_skip ?_ | refine RX_gfrz ?_ | refine RX_exit ?_ | refine RX_ret ?_); try (simp only [go_sem, Nat.max_zero, List.isEmpty_cons, Int.reduceToNat, Nat.reducePow, Int.reduceEq, Int.reduceNe, Int.reduceLT, Int.reduceLE, Nat.reduceAdd, Nat.reduceLeDiff, ↓reduceIte, Nat.reduceLT, Nat.reduceMul, Nat.reduceSub, reduceCtorEq, frzLoc, rowCells, vAppM, beq_iff_eq, bne_iff_ne, bne_self_eq_false, beq_self_eq_true, beq_true, beq_false, I, B, w, vf92_res, vf92_keep, h]))))
  rfl
theorem sm_of {l : List Tm} {t : Tm} (h : Tm.smalls l) (ht : t ∈ l) : t.small := by
  obtain ⟨i, hi⟩ := List.getElem?_of_mem ht
  exact sm_at h hi
theorem closG_wok {n : Nat} {wF : Wst} : ∀ (m : Nat) (st : Wst), Wok st → closG n m st = some wF → Wok wF
  | 0, st, _, h => by cases h
  | m + 1, st, hk, h => by
    obtain ⟨m', st', b, hm, ho, h1, h2⟩ := closG_step h
    obtain rfl : m = m' := by omega
    have := wok_openF hk ho
    cases b with
    | true => exact closG_wok m st' this (h1 rfl)
    | false => rw [← h2 rfl]; exact this
theorem closG_sm {ls : List Tm} {n m : Nat} {wF : Wst} (hs : Tm.smalls ls) (h : closG n m (addL ⟨[], [], []⟩ ls) = some wF) : Tm.smalls wF.k :=
  (closG_wok m _ (wok_addL (st := ⟨[], [], []⟩) ⟨trivial, trivial, trivial, Nat.le_refl _, fun _ h => by cases h⟩ hs) h).k
theorem e30 (ls : List Tm) (t : Tm) (hs : Tm.smalls ls) (ht : t.small) (hn : ls.length ≤ 12) (hv : ∀ u ∈ ls, Vld u) (hvt : Vld t) (hN : (subsL ls).length ≤ 1000000) :
    ∃ wF n m, closG n m (addL ⟨[], [], []⟩ ls) = some wF ∧ CV VPC 30 [.d (.sl (ls.map Tm.row)), t.ag] [] = some ⟨.d (B (canF (sorted ls) t || canF wF.k t)), [], [], 0⟩ := by
  have hv91 : ∀ u ∈ ls, CV VPV 91 [u.ag] [] = some ⟨.d (B true), [], [], 0⟩ := fun u hu => e91 u (sm_of hs hu) (hv u hu)
  obtain ⟨wF, n, m, hc, hk, h31⟩ := clo_eq hs (by omega) hv91 hN
  refine ⟨wF, n, m, hc, ?_⟩
  have h31' : CV VPC 31 [.d (.sl (ls.map Tm.row))] [] = some ⟨.tup [.d (.sl (wF.k.map Tm.row)), .d (I 0)], [], [], 0⟩ := CV_nat (by
    show orN (cloNat VPV) VPV.nat 31 _ [] = _
    unfold orN; rw [h31])
  have h92 := upC (e92v ls (by omega) fun u hu => e93 u (sm_of hs hu) (hv u hu))
  have h91 := upC (e91 t ht hvt)
  have h94 := upC (upV (upN (e94a ls t hs ht hn)))
  have h95 := upVC (e95 wF.k (closG_sm hs hc) hk t ht)
  have hlen : ¬ ((ls.length : Int) > 400) := by omega
  clear hv hvt hN hc hk h31
  obtain ⟨L, hL⟩ : ∃ L, ls.map Tm.row = L := ⟨_, rfl⟩
  have hll : L.length = ls.length := by rw [← hL, List.length_map]
  rw [hL] at h31' h92 h94 ⊢
  rw [← hll] at hlen
  generalize canF (sorted ls) t = q1 at h94 ⊢
  generalize canF wF.k t = q2 at h95 ⊢
  generalize wF.k.map Tm.row = K at h31' h95
  obtain ⟨o, v, us⟩ := t
  have hag : (Tm.mk o v us).ag = .agg [.d (I o), .d (I v), .d (.sl (us.map Tm.row))] := rfl
  rw [hag] at h91 h94 h95 ⊢
  refine CV_run (vf := vf30) rfl rfl ?_
  rw [vf30_start]
  cases q1 with
  | true => (repeat (first
    | refine RX_seq ?_
    | refine RX_block ?_
    | ((first | refine RX_reg ?_ | refine RX_cond' ?_ | refine RX_draw0 ?_ | refine RX_draw rfl ?_ | refine RX_skip ?_ | refine RX_gfrz ?_ | refine RX_exit ?_ | refine RX_ret ?_); try (simp only [go_sem, Nat.max_zero, List.isEmpty_cons, Int.reduceToNat, Nat.reducePow, Int.reduceEq, Int.reduceNe, Int.reduceLT, Int.reduceLE, Nat.reduceAdd, Nat.reduceLeDiff, ↓reduceIte, Nat.reduceLT, Nat.reduceMul, Nat.reduceSub, reduceCtorEq, frzLoc, rowCells, vAppM, beq_iff_eq, bne_iff_ne, bne_self_eq_false, beq_self_eq_true, beq_true, beq_false, I, B, w, vf30_res, vf30_keep, h31', h92, h91, h94, h95, hlen]))))
  | false => (repeat (first
    | refine RX_seq ?_
    | refine RX_block ?_
    | ((first | refine RX_reg ?_ | refine RX_cond' ?_ | refine RX_draw0 ?_ | refine RX_draw rfl ?_ | refine RX_skip ?_ | refine RX_gfrz ?_ | refine RX_exit ?_ | refine RX_ret ?_); try (simp only [go_sem, Nat.max_zero, List.isEmpty_cons, Int.reduceToNat, Nat.reducePow, Int.reduceEq, Int.reduceNe, Int.reduceLT, Int.reduceLE, Nat.reduceAdd, Nat.reduceLeDiff, ↓reduceIte, Nat.reduceLT, Nat.reduceMul, Nat.reduceSub, reduceCtorEq, frzLoc, rowCells, vAppM, beq_iff_eq, bne_iff_ne, bne_self_eq_false, beq_self_eq_true, beq_true, beq_false, I, B, w, vf30_res, vf30_keep, h31', h92, h91, h94, h95, hlen]))))
end Go.Proofs.Ytgiciiknagelhaa
set_option linter.unusedVariables false
set_option maxRecDepth 100000
set_option maxHeartbeats 4000000
namespace Go.Proofs.Ytgiciiknagelhaa
open Go.VM
theorem subsL_len {ls : List Tm} (hv : ∀ u ∈ ls, Vld u) : (subsL ls).length ≤ 600 * ls.length := by
  induction ls with
  | nil => simp [subsL]
  | cons t ts ih =>
    have h1 := (hv t List.mem_cons_self).1
    have h2 := ih fun u hu => hv u (List.mem_cons_of_mem _ hu)
    rw [subsL, List.length_append, List.length_cons]
    omega
theorem can30 {ls : List Tm} {t : Tm} (hs : Tm.smalls ls) (ht : t.small) (hn : ls.length ≤ 12) (hv : ∀ u ∈ ls, Vld u) (hvt : Vld t) :
    ∃ q : Bool, (q = true ↔ CanM (Kn ls) t) ∧ CV VPC 30 [.d (.sl (ls.map Tm.row)), t.ag] [] = some ⟨.d (B q), [], [], 0⟩ := by
  obtain ⟨wF, n, m, hc, h⟩ := e30 ls t hs ht hn hv hvt (by have := subsL_len hv; omega)
  exact ⟨_, can_iff hc t, h⟩
theorem can30T {ls : List Tm} {t : Tm} (hs : Tm.smalls ls) (ht : t.small) (hn : ls.length ≤ 12) (hv : ∀ u ∈ ls, Vld u) (hvt : Vld t) (h : CanM (Kn ls) t) : CV VPC 30 [.d (.sl (ls.map Tm.row)), t.ag] [] = some ⟨.d (B true), [], [], 0⟩ := by
  obtain ⟨q, h1, h2⟩ := can30 hs ht hn hv hvt
  rw [h1.2 h] at h2; exact h2
theorem can30F {ls : List Tm} {t : Tm} (hs : Tm.smalls ls) (ht : t.small) (hn : ls.length ≤ 12) (hv : ∀ u ∈ ls, Vld u) (hvt : Vld t) (h : ¬ CanM (Kn ls) t) : CV VPC 30 [.d (.sl (ls.map Tm.row)), t.ag] [] = some ⟨.d (B false), [], [], 0⟩ := by
  obtain ⟨q, h1, h2⟩ := can30 hs ht hn hv hvt
  cases q with
  | true => exact absurd (h1.1 rfl) h
  | false => exact h2
abbrev slT : Tm := .mk 7 0 [nameT 0 1, nameT 1 1]
theorem aw_yes : CanM (Kn [slT, nameT 0 1]) (nameT 1 1) :=
  CanM_of ((Kn_closed _).opens 0 (nameT 0 1) (nameT 1 1) (Kn_base (by simp)) (CanM_of (Kn_base (by simp))))
theorem aw_no : ¬ CanM (Kn [slT]) (nameT 1 1) := fun h => by
  have hC : Closed (fun x => x = slT) := ⟨fun o v ts t hk ho ht => by
      simp only [slT, Tm.mk.injEq] at hk
      omega, fun v k b hk hc => by
      simp only [slT, Tm.mk.injEq, List.cons.injEq, and_true, true_and] at hk
      obtain ⟨_, rfl, rfl⟩ := hk
      rcases (can_name (by decide) (by decide) (by decide) (by decide)).1 hc with q | q
      · simp [nameT, slT] at q
      · cases q⟩
  rcases (can_name (by decide) (by decide) (by decide) (by decide)).1 h with q | q
  · have := Kn_min hC (fun x hx => by simpa using hx) q
    simp [nameT, slT] at this
  · cases q
theorem nm_vld {v : Int} (hv : 0 ≤ v) : Vld (.mk 2 v []) := ⟨by simp [subs, subsL], by simp [dep, depL], nm_snd hv⟩
theorem slT_vld : Vld slT := ⟨by decide, by decide, AllS_mk (by decide) (fun t ht => by
  simp only [List.mem_cons, List.not_mem_nil, or_false] at ht
  rcases ht with rfl | rfl <;> exact nm_snd (by decide))⟩
theorem nm_sm (v : Int) : (Tm.mk 2 v []).small := ⟨by decide, trivial⟩
theorem slT_sm : slT.small := ⟨by decide, nm_sm _, nm_sm _, trivial⟩
theorem e27 : CV VPC 27 [] [] = some ⟨.d (B true), [], [], 0⟩ := by
  have h1 : CV VPC 34 [.d (I 0), .d (I 1)] [] = some ⟨.agg [.d (I 2), .d (I 1), .d (.sl [])], [], [], 0⟩ := upVC (CV_C 400 (by kernel_rfl))
  have h2 : CV VPC 34 [.d (I 1), .d (I 1)] [] = some ⟨.agg [.d (I 2), .d (I 1048577), .d (.sl [])], [], [], 0⟩ := upVC (CV_C 400 (by kernel_rfl))
  have h3 : CV VPC 33 [.agg [.d (I 2), .d (I 1), .d (.sl [])], .agg [.d (I 2), .d (I 1048577), .d (.sl [])]] [] = some ⟨.agg [.d (I 7), .d (I 0), .d (.sl [[I 2, I 1, .sl []], [I 2, I 1048577, .sl []]])], [], [], 0⟩ := upVC (CV_C 400 (by kernel_rfl))
  have h4 : CV VPC 30 [.d (.sl [[I 7, I 0, .sl [[I 2, I 1, .sl []], [I 2, I 1048577, .sl []]]], [I 2, I 1, .sl []]]), .agg [.d (I 2), .d (I 1048577), .d (.sl [])]] [] = some ⟨.d (B true), [], [], 0⟩ :=
    can30T (ls := [slT, nameT 0 1]) (t := nameT 1 1) ⟨slT_sm, nm_sm _, trivial⟩ (nm_sm _) (by decide) (fun u hu => by
      simp only [List.mem_cons, List.not_mem_nil, or_false] at hu
      rcases hu with rfl | rfl
      · exact slT_vld
      · exact nm_vld (by decide)) (nm_vld (by decide)) aw_yes
  have h5 : CV VPC 30 [.d (.sl [[I 7, I 0, .sl [[I 2, I 1, .sl []], [I 2, I 1048577, .sl []]]]]), .agg [.d (I 2), .d (I 1048577), .d (.sl [])]] [] = some ⟨.d (B false), [], [], 0⟩ :=
    can30F (ls := [slT]) (t := nameT 1 1) ⟨slT_sm, trivial⟩ (nm_sm _) (by decide) (fun u hu => by
      simp only [List.mem_cons, List.not_mem_nil, or_false] at hu
      subst hu; exact slT_vld) (nm_vld (by decide)) aw_no
  refine CV_run (vf := vf27) rfl rfl ?_
  rw [vf27_start]
  (repeat (first
    | refine RX_seq ?_
    | refine RX_block ?_
    | ((first | refine RX_reg ?_ | refine RX_cond' ?_ | refine RX_draw0 ?_ | refine RX_draw rfl ?_ | refine RX_skip ?_ | refine RX_gfrz ?_ | refine RX_exit ?_ | refine RX_ret ?_); try (simp only [go_sem, Nat.max_zero, List.isEmpty_cons, Int.reduceToNat, Nat.reducePow, Int.reduceEq, Int.reduceNe, Int.reduceLT, Int.reduceLE, Nat.reduceAdd, Nat.reduceLeDiff, ↓reduceIte, Nat.reduceLT, Nat.reduceMul, Nat.reduceSub, reduceCtorEq, frzLoc, rowCells, vAppM, beq_iff_eq, bne_iff_ne, bne_self_eq_false, beq_self_eq_true, beq_true, beq_false, I, B, w, vf27_res, vf27_keep, h1, h2, h3, h4, h5]))))
end Go.Proofs.Ytgiciiknagelhaa
set_option linter.unusedVariables false
set_option maxRecDepth 100000
set_option maxHeartbeats 8000000
namespace Go.Proofs.Ytgiciiknagelhaa
open Go.VM
abbrev cdK (q : List Int) (k : Nat) : List V := [.d (.sl (q.map byteRow)), .d (I (k : Nat))]
theorem sm_snoc {ls : List Tm} {t : Tm} (h : Tm.smalls ls) (ht : t.small) : Tm.smalls (ls ++ [t]) := sm_app.2 ⟨h, ht, trivial⟩
theorem vl_snoc {ls : List Tm} {t : Tm} (h : ∀ u ∈ ls, Vld u) (ht : Vld t) : ∀ u ∈ ls ++ [t], Vld u := fun u hu => by
  rcases List.mem_append.1 hu with hu | hu
  · exact h u hu
  · rw [List.mem_singleton] at hu; rw [hu]; exact ht
end Go.Proofs.Ytgiciiknagelhaa
set_option linter.unusedVariables false
set_option maxRecDepth 100000
set_option maxHeartbeats 8000000
namespace Go.Proofs.Ytgiciiknagelhaa
open Go.VM
theorem r2_ok {a b x y : Int} {r s : D} : Rows3 [[I a, I b, r], [I x, I y, s]] := ⟨by simp, by simp⟩
theorem c35 (a b x y : Int) (r s : D) : CV VP 35 [.d (.sl [[I a, I b, r], [I x, I y, s]])] [] = some ⟨.agg [.d (I 3), .d (I 0), .d (.sl [[I a, I b, r], [I x, I y, s]])], [], [], 0⟩ := e71 r2_ok (by simp)
theorem c33 (a b x y : Int) (r s : D) : CV VP 33 [.agg [.d (I a), .d (I b), .d r], .agg [.d (I x), .d (I y), .d s]] [] = some ⟨.agg [.d (I 7), .d (I 0), .d (.sl [[I a, I b, r], [I x, I y, s]])], [], [], 0⟩ := by
  refine CV_run (vf := vf33) rfl rfl ?_
  rw [vf33_start]
  (repeat (first
    | refine RX_seq ?_
    | refine RX_block ?_
    | ((first | refine RX_reg ?_ | refine RX_cond' ?_ | refine RX_draw0 ?_ | refine RX_draw rfl ?_ | refine RX_skip ?_ | refine RX_gfrz ?_ | refine RX_exit ?_ | refine RX_ret ?_); try (simp only [go_sem, Nat.max_zero, List.isEmpty_cons, Int.reduceToNat, Nat.reducePow, Int.reduceEq, Int.reduceNe, Int.reduceLT, Int.reduceLE, Nat.reduceAdd, Nat.reduceLeDiff, ↓reduceIte, Nat.reduceLT, Nat.reduceMul, Nat.reduceSub, reduceCtorEq, frzLoc, rowCells, vAppM, beq_iff_eq, bne_iff_ne, bne_self_eq_false, beq_self_eq_true, beq_true, beq_false, I, B, w, vf33_res, vf33_keep]))))
theorem c36 (n : Int) : CV VP 36 [.d (I n)] [] = some ⟨.agg [.d (I 1), .d (I n), .d (.sl [])], [], [], 0⟩ := by
  refine CV_run (vf := vf36) rfl rfl ?_
  rw [vf36_start]
  (repeat (first
    | refine RX_seq ?_
    | refine RX_block ?_
    | ((first | refine RX_reg ?_ | refine RX_cond' ?_ | refine RX_draw0 ?_ | refine RX_draw rfl ?_ | refine RX_skip ?_ | refine RX_gfrz ?_ | refine RX_exit ?_ | refine RX_ret ?_); try (simp only [go_sem, Nat.max_zero, List.isEmpty_cons, Int.reduceToNat, Nat.reducePow, Int.reduceEq, Int.reduceNe, Int.reduceLT, Int.reduceLE, Nat.reduceAdd, Nat.reduceLeDiff, ↓reduceIte, Nat.reduceLT, Nat.reduceMul, Nat.reduceSub, reduceCtorEq, frzLoc, rowCells, vAppM, beq_iff_eq, bne_iff_ne, bne_self_eq_false, beq_self_eq_true, beq_true, beq_false, I, B, w, vf36_res, vf36_keep]))))
theorem next37 {q : List Int} (hB : Bytes q) (k : Nat) {n : Int} (h1 : 0 < n) (h2 : n ≤ 256) : CV VPC 37 [.ptr 0 0, .d (I n)] [cdK q k] = some ⟨.d (I (nxV q k n)), [cdK q (nxA q k)], [], 0⟩ := upVC (e29 (bl := [[]]) (id := 0) (own := []) hB CtxOk.base h1 h2 rfl rfl)
end Go.Proofs.Ytgiciiknagelhaa
set_option linter.unusedVariables false
set_option maxRecDepth 100000
set_option maxHeartbeats 8000000
namespace Go.Proofs.Ytgiciiknagelhaa
open Go.VM
theorem AllS2 {o v : Int} {a b : Tm} (h : sndF (.mk o v [a, b]) = true) (ha : AllS a) (hb : AllS b) : AllS (.mk o v [a, b]) := AllS_mk h fun t ht => by
  simp only [List.mem_cons, List.not_mem_nil, or_false] at ht
  rcases ht with rfl | rfl
  · exact ha
  · exact hb
theorem AllS0 {o v : Int} (h : sndF (.mk o v []) = true) : AllS (.mk o v []) := AllS_mk h fun t ht => by cases ht
end Go.Proofs.Ytgiciiknagelhaa
