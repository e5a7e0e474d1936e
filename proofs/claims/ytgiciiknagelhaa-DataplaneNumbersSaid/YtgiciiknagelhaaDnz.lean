/- The law DataplaneNumbers on the machine: it answers true. Conditions: none. -/
import Derived.Test.YtgiciiknagelhaaVe
import Derived.Test.YtgiciiknagelhaaDny
set_option linter.unusedSimpArgs false
set_option linter.unusedVariables false
set_option maxRecDepth 100000
set_option maxHeartbeats 1000000
namespace Go.Proofs.Ytgiciiknagelhaa
open Go.VM
def rc81 : VFunc × RCode := (⟨43, .skip, [.cell 6 1 false], false⟩, .seq (.base (.reg [⟨some 3, .boxv 19 (.t 0), none⟩, ⟨some 4, .boxv 1 (.t 1), none⟩, ⟨some 5, .boxv 9 (.t 2), none⟩, ⟨some 6, .box [.d (.lit (.int .i64 0))], none⟩])) (.seq (.seq (.base (.reg [⟨some 9, .fieldA (.t 3) 17, none⟩, ⟨some 10, .load (.t 9) 1 false, none⟩, ⟨some 11, .call 145 [.t 10], none⟩])) (.block 0 (.rfor (.t 11) [12, 13] (.reg [⟨some 8, .box [.d (.lit (.int .i64 0)), .d (.lit (.int .i64 0)), .d (.lit (.int .i64 0)), .d (.lit (.int .i64 0)), .d (.lit (.int .i64 0)), .d (.lit (.int .u64 0)), .d (.lit (.int .u64 0)), .d (.lit (.int .i64 0)), .d (.lit (.int .u64 0)), .d (.lit (.int .u64 0)), .d (.lit (.int .i64 0)), .d (.lit (.int .u64 0)), .d (.lit (.int .u64 0)), .d (.lit (.int .i64 0)), .d (.lit (.int .u64 0)), .d (.lit (.int .u64 0)), .d (.lit (.int .i64 0)), .d (.lit (.int .i64 0)), .d (.lit (.int .i64 0)), .d (.lit (.int .i64 0)), .d (.lit (.int .i64 0)), .d (.lit (.int .i64 0)), .d (.lit (.int .i64 0)), .d (.lit (.int .i64 0)), .nil, .d (.lit (.int .i64 0)), .d (.lit (.int .i64 0)), .nil, .d (.lit (.bool false)), .d (.lit (.int .i64 0)), .d (.lit (.int .i64 0)), .nil, .d (.lit (.int .i64 0)), .d (.lit (.int .i64 0)), .nil, .d (.lit (.int .i64 0)), .d (.lit (.int .i64 0)), .d (.lit (.int .i64 0)), .d (.lit (.int .u64 0)), .nil, .d (.lit (.int .i64 0)), .d (.lit (.int .i64 0))], none⟩, ⟨none, .store (.t 8) (.t 13) 42, none⟩]) (.block 1 (.seq (.reg [⟨some 14, .fieldA (.t 8) 35, none⟩, ⟨some 15, .load (.t 14) 1 false, none⟩, ⟨some 16, .bin .eql (.t 15) (.c (.d (.lit (.int .i64 1)))), none⟩, ⟨some 17, .mov (.t 16), none⟩, ⟨some 18, .fieldA (.t 8) 3, some (17, true)⟩, ⟨some 19, .load (.t 18) 1 false, some (17, true)⟩, ⟨some 20, .load (.t 4) 1 false, some (17, true)⟩, ⟨some 21, .bin .eql (.t 19) (.t 20), some (17, true)⟩, ⟨some 22, .pick (.t 17) (.t 21) (.c (.d (.lit (.bool false)))), none⟩, ⟨some 23, .mov (.t 22), none⟩, ⟨some 24, .fieldA (.t 8) 4, some (23, true)⟩, ⟨some 25, .load (.t 24) 18 true, some (23, true)⟩, ⟨some 26, .load (.t 5) 9 true, some (23, true)⟩, ⟨some 27, .call 146 [.t 25, .t 26, .c (.d (.lit (.bool true)))], some (23, true)⟩, ⟨some 28, .pick (.t 23) (.t 27) (.c (.d (.lit (.bool false)))), none⟩, ⟨some 29, .mov (.t 28), none⟩, ⟨some 30, .load (.t 3) 19 true, some (29, true)⟩, ⟨some 31, .fieldA (.t 8) 2, some (29, true)⟩, ⟨some 32, .load (.t 31) 1 false, some (29, true)⟩, ⟨some 33, .call 47 [.t 30, .t 32], some (29, true)⟩, ⟨some 34, .bin .geq (.t 33) (.c (.d (.lit (.int .i64 0)))), some (29, true)⟩, ⟨some 35, .pick (.t 29) (.t 34) (.c (.d (.lit (.bool false)))), none⟩, ⟨some 36, .mov (.t 35), none⟩, ⟨some 37, .fieldA (.t 8) 36, some (36, true)⟩, ⟨some 38, .load (.t 37) 1 false, some (36, true)⟩, ⟨some 39, .bin .lss (.t 38) (.c (.d (.lit (.int .i64 200)))), some (36, true)⟩, ⟨some 40, .pick (.t 36) (.t 39) (.c (.d (.lit (.bool false)))), none⟩]) (.cond (.t 40) (.seq (.reg [⟨some 41, .fieldA (.t 8) 0, none⟩, ⟨some 42, .load (.t 41) 1 false, none⟩, ⟨none, .store (.t 6) (.t 42) 1, none⟩]) .ret) .skip)))))) (.base (.seq (.reg [⟨none, .store (.t 6) (.c (.d (.lit (.int .i64 0)))) 1, none⟩]) .ret))))
theorem rc81_ok : compFnR Try.prog [] 81 = some rc81 := by kernel_rfl
def sqT : Sq := fun gf caps => match Nat.beq gf 174 with
  | true => match caps with
    | [.ep [.sl rows]] => if rows.all (fun r => r.length == 42) = true then some (backItems rows) else none
    | _ => none
  | false => none
theorem enters {k : Nat} {vf : VFunc} (h : CFunc Try.prog k vf) (hb : ∃ fn, Try.prog.funcs[k]? = some fn) (args : Array Value) (w : World) : (callFunc k args).run Try.prog w = .ok (.enter k args) w := by
  obtain ⟨fn, code, h1, h2, h3, _⟩ := h.ex
  exact run_callFunc h1 (by rw [h2]; rfl) h3
theorem sqT_ok : SqOk Try.prog sqT := fun gf caps items h => by
  unfold sqT at h
  split at h
  · rename_i hg
    obtain rfl := Nat.eq_of_beq_eq_true hg
    split at h
    · rename_i rows
      split at h
      · rename_i hr
        simp only [Option.some.injEq] at h; subst h
        refine ⟨enters (compS_ok vf174_ok) (by obtain ⟨fn, code, h1, _⟩ := (compS_ok vf174_ok).ex; exact ⟨fn, h1⟩), fun F lb hlb => itr_back (sz := 42) (compS_ok vf174_ok) (by kernel_rfl) rfl rfl (fun r hm => ?_) hlb⟩
        have := List.all_eq_true.1 hr r hm
        simpa using this
      · cases h
    · cases h
  · cases h
def rT : FuncId → Option (VFunc × RCode) := fun f => match Nat.beq f 81 with
  | true => some rc81
  | false => none
theorem rT_some {f : FuncId} {p : VFunc × RCode} (h : rT f = some p) : f = 81 ∧ p = rc81 := by
  unfold rT at h
  split at h
  · rename_i hf; exact ⟨Nat.eq_of_beq_eq_true hf, by simpa using h.symm⟩
  · cases h
theorem rT_ok (f : FuncId) (vf : VFunc) (rc : RCode) (h : rT f = some (vf, rc)) : CFuncR Try.prog f vf rc := by
  obtain ⟨rfl, hp⟩ := rT_some h
  exact compFnR_ok (by rw [rc81_ok, ← hp])
noncomputable def VPR : VProg := ⟨vft.get, orN (natR VP sqT rT) VP.nat⟩
theorem VPR_ok : CProg Try.prog VPR := cprog_or VP_ok (natR_ok VP_ok (by kernel_rfl) sqT_ok rT_ok) (natR_fn rT_ok)
theorem vft_okR : ∀ f vf, vft.get f = some vf → VPR.fn f = some vf := fun _ _ h => h
theorem up {f : FuncId} {a : List V} {b : List (List V)} {r : Ret} (h : CV VP f a b = some r) : CV VPR f a b = some r :=
  CV_more (natR_N fun f p h => by obtain ⟨rfl, _⟩ := rT_some h; exact ⟨by decide, rfl, fun _ _ => rfl⟩) h
theorem r81 {args : List V} {blks : List (List V)} {ret : Ret} (h : RXR VP sqT rc81.2 (rc81.1.start args blks) fun e st => (e = .normal ∨ e = .ret) ∧ st.base = blks.length ∧ vRet rc81.1 blks.length st = some ret) : CV VPR 81 args blks = some ret :=
  CV_nat (by
    show orN (natR VP sqT rT) VP.nat 81 args blks = some ret
    unfold orN
    rw [show natR VP sqT rT 81 args blks = vRunR (X VP) sqT rc81.1 rc81.2 args blks from rfl, runR_of h])
end Go.Proofs.Ytgiciiknagelhaa
set_option linter.unusedVariables false
set_option maxRecDepth 100000
set_option maxHeartbeats 4000000
namespace Go.Proofs.Ytgiciiknagelhaa
open Go.VM
abbrev saL : List D := [I 5, I 6, B false, I 3, I 1, I 2, I 0, I 0, .sl [], I 0, I 0, .sl [], I 0, I 0, .sl [], I 0, I 0, .sl [], I 0, I 0, .sl [], I 0, I 0, .sl [], I 0, I 0, .sl [], I 0, I 0, I 0, I 0, I 0, I 0, .sl [], I 0, I 0, I 0, I 0, I 0, .sl [], I 0, I 0, .sl [], I 0, I 0, I 0, I 0, .lit (.int .u64 0), .lit (.int .u64 0), I 0, .lit (.int .u64 0), .lit (.int .u64 0), I 0, .lit (.int .u64 0), .lit (.int .u64 0), I 0, .lit (.int .u64 0), .lit (.int .u64 0), I 0, I 0, I 0, I 0, I 0, I 0, I 0, I 0, .sl [], .sl [], I 0, I 0, I 0, .sl [], I 0, I 0, I 0, I 9, I 0, B false, I 0, B false, I 0]
abbrev chL (x : Bx) (ri s : Int) : List D := I 9 :: I 8 :: I 5 :: I ri :: I x.f :: .lit (.int .u64 x.h) :: .lit (.int .u64 x.a0) :: I x.f :: .lit (.int .u64 x.h) :: .lit (.int .u64 x.b0) :: I x.f :: .lit (.int .u64 x.h) :: .lit (.int .u64 x.a1) :: I x.f :: .lit (.int .u64 x.h) :: .lit (.int .u64 x.b1) :: I x.p0 :: I x.p1 :: I x.l0 :: I x.l1 :: I x.r0 :: I x.r1 :: [I 0, I 0, .sl [], I 2, I 70, .sl [], B false, I 0, I 0, .sl [], I 0, I 0, .sl [], I 1, I s, I 0, .lit (.int .u64 0), .sl [], I 0, I 0]
abbrev gwL (Rl : List (List D)) (G : D) (x : Bx) (ri s : Int) : List V := [.d (I 0), .d (I 1), .d (I 1), .d (I 2), .d (.sl Rl), .d G, .d (I 0), .d (I 2), .d (I 2), .d (I 1), .d (.sl []), .d (I 2), .d (I 2), .d (.sl []), .d (I 0), .d (.sl []), .d (.sl [saL]), .d (.sl [chL x ri s]), .d (.sl [])]
theorem d47 (Rl : List (List D)) (G : D) (x : Bx) (ri s : Int) : CV VP 47 [.agg (gwL Rl G x ri s), .d (I 5)] [] = some ⟨.d (I 0), [], [], 0⟩ :=
  CV_R (cA_ok vft_ok noNat 400 60) 400 [] [] rfl rfl (ob := []) (by kernel_rfl) .nil
theorem d145 (x : Bx) (ri s : Int) : CV VP 145 [.d (.sl [chL x ri s])] [] = some ⟨.fn 174 [.ptr 0 0], [[.d (.sl [chL x ri s])]], [], 0⟩ :=
  CV_R (cA_ok vft_ok noNat 400 60) 400 [] [] rfl rfl (ob := []) (by kernel_rfl) .nil
theorem rc81_start (bl : List (List V)) (x0 x1 x2 : V) : rc81.1.start [x0, x1, x2] bl = ⟨[x0, x1, x2, .any, .any, .any, .any, .any, .any, .any, .any, .any, .any, .any, .any, .any, .any, .any, .any, .any, .any, .any, .any, .any, .any, .any, .any, .any, .any, .any, .any, .any, .any, .any, .any, .any, .any, .any, .any, .any, .any, .any, .any], bl, [], 0, bl.length, 0⟩ := rfl
theorem d81 (Rl : List (List D)) (G : D) (x : Bx) (ri s : Int) {F H A A1 pr sp tp : Int} (hx : x.ok) (p1 : num pr) (p2 : num sp) (p3 : num tp) (hh : hasB x F H A A1 pr sp tp = true) :
    CV VPR 81 [.agg (gwL Rl G x ri s), .d (I ri), pkV F H A A1 pr sp tp] [] = some ⟨.d (I (if s < 200 then 9 else 0)), [], [], 0⟩ := by
  have h146 := e146 x hx F H A A1 pr sp tp p1 p2 p3
  rw [hh] at h146
  have h47 := d47 Rl G x ri s
  have h145 := d145 x ri s
  refine r81 ?_
  rw [rc81_start]
  simp only [rc81]
  refine RXR_seq (RXR_base rfl ?_)
  (repeat (first
    | refine RX_seq ?_
    | refine RX_block ?_
    | ((first | refine RX_reg ?_ | refine RX_cond' ?_ | refine RX_draw0 ?_ | refine RX_draw rfl ?_ | refine RX_skip ?_ | refine RX_gfrz ?_ | refine RX_exit ?_ | refine RX_ret ?_); try (simp only [go_sem, Nat.max_zero, List.isEmpty_cons, Int.reduceToNat, Nat.reducePow, Int.reduceEq, Int.reduceNe, Int.reduceLT, Int.reduceLE, Nat.reduceAdd, Nat.reduceLeDiff, ↓reduceIte, Nat.reduceLT, Nat.reduceMul, Nat.reduceSub, reduceCtorEq, frzLoc, rowCells, vAppM, beq_iff_eq, bne_iff_ne, bne_self_eq_false, beq_self_eq_true, beq_true, beq_false, I, B, w, h145]))))
  refine RXR_seq (RXR_seq (RXR_base rfl ?_))
  (repeat (first
    | refine RX_seq ?_
    | refine RX_block ?_
    | ((first | refine RX_reg ?_ | refine RX_cond' ?_ | refine RX_draw0 ?_ | refine RX_draw rfl ?_ | refine RX_skip ?_ | refine RX_gfrz ?_ | refine RX_exit ?_ | refine RX_ret ?_); try (simp only [go_sem, Nat.max_zero, List.isEmpty_cons, Int.reduceToNat, Nat.reducePow, Int.reduceEq, Int.reduceNe, Int.reduceLT, Int.reduceLE, Nat.reduceAdd, Nat.reduceLeDiff, ↓reduceIte, Nat.reduceLT, Nat.reduceMul, Nat.reduceSub, reduceCtorEq, frzLoc, rowCells, vAppM, beq_iff_eq, bne_iff_ne, bne_self_eq_false, beq_self_eq_true, beq_true, beq_false, I, B, w, h145]))))
  refine RXR_block ?_
  refine RXR_for (gf := 174) (caps := [.ptr 4 0]) (items := [[.d (I 0), .agg ((chL x ri s).map .d)]]) rfl (by kernel_rfl) (by kernel_rfl) ?_
  refine ⟨rfl, ?_⟩
  simp only [killL, ptrIds, List.set, setPs, List.length_cons, List.length_nil, Nat.reduceAdd, Nat.not_lt_zero, if_false, List.map]
  by_cases hs : s < 200
  · (repeat (first
    | refine RX_seq ?_
    | refine RX_block ?_
    | ((first | refine RX_reg ?_ | refine RX_cond' ?_ | refine RX_draw0 ?_ | refine RX_draw rfl ?_ | refine RX_skip ?_ | refine RX_gfrz ?_ | refine RX_exit ?_ | refine RX_ret ?_); try (simp only [go_sem, Nat.max_zero, List.isEmpty_cons, Int.reduceToNat, Nat.reducePow, Int.reduceEq, Int.reduceNe, Int.reduceLT, Int.reduceLE, Nat.reduceAdd, Nat.reduceLeDiff, ↓reduceIte, Nat.reduceLT, Nat.reduceMul, Nat.reduceSub, reduceCtorEq, frzLoc, rowCells, vAppM, beq_iff_eq, bne_iff_ne, bne_self_eq_false, beq_self_eq_true, beq_true, beq_false, I, B, w, h146, h47, hs]))))
  · (repeat (first
    | refine RX_seq ?_
    | refine RX_block ?_
    | ((first | refine RX_reg ?_ | refine RX_cond' ?_ | refine RX_draw0 ?_ | refine RX_draw rfl ?_ | refine RX_skip ?_ | refine RX_gfrz ?_ | refine RX_exit ?_ | refine RX_ret ?_); try (simp only [go_sem, Nat.max_zero, List.isEmpty_cons, Int.reduceToNat, Nat.reducePow, Int.reduceEq, Int.reduceNe, Int.reduceLT, Int.reduceLE, Nat.reduceAdd, Nat.reduceLeDiff, ↓reduceIte, Nat.reduceLT, Nat.reduceMul, Nat.reduceSub, reduceCtorEq, frzLoc, rowCells, vAppM, beq_iff_eq, bne_iff_ne, bne_self_eq_false, beq_self_eq_true, beq_true, beq_false, I, B, w, h146, h47, hs]))))
end Go.Proofs.Ytgiciiknagelhaa
set_option linter.unusedVariables false
set_option maxRecDepth 100000
set_option maxHeartbeats 4000000
namespace Go.Proofs.Ytgiciiknagelhaa
open Go.VM
abbrev dU (n : Int) : D := .lit (.int .u64 n)
def iPos : Int → Bool
  | .ofNat n => Nat.ble 1 n
  | .negSucc _ => false
noncomputable def AD (R : List (List D)) (gk : Int) (Rl : List (List D)) (G G2 : D) (Rb : List (List D)) (ac rr at_ ri cho : Int) : Orc := fun f a b => match Nat.beq f 21 with
  | true => match b with
    | [_, .d (.lit (.int _ k))] :: bs => some ⟨.tup [.agg [.d (I 0), .d (I 1), .d (I 1), .d (I 2), .d (.sl Rl), .d G, .d (I 0), .d (I 2), .d (I 2), .d (I 1), .d (.sl []), .d (I 2), .d (I 2), .d (.sl []), .d (I 0), .d (.sl []), .d (.sl []), .d (.sl []), .d (.sl [])], .agg [.d (I 1), .d (I 0), .d (I 2), .d (I 1), .d (.sl Rb), .d G2, .d (I 0), .d (I 2), .d (I 2), .d (I 1048577), .d (.sl []), .d (I 2), .d (I 1048578), .d (.sl []), .d (I 0), .d (.sl []), .d (.sl []), .d (.sl []), .d (.sl [])]], [.d (.sl R), .d (I gk)] :: bs, [], 0⟩
    | _ => none
  | false => match Nat.beq f 11 with
    | true => match a with
      | [_, .d (.lit (.int _ n))] => match iPos n with
        | true => some ⟨.ptr 0 0, [[.sl 1 R (.own 0 0), .d (I 0)]], [0], 1⟩
        | false => none
      | _ => none
    | false => match Nat.beq f 22 with
      | true => some ⟨.tup [.d (I ac), .d (I rr)], b, [], 0⟩
      | false => match Nat.beq f 24 with
        | true => some ⟨.d (I at_), b, [], 0⟩
        | false => match Nat.beq f 77 with
          | true => some ⟨.tup [.d (I 2), .d (I ri)], b, [], 0⟩
          | false => match Nat.beq f 81 with
            | true => some ⟨.d (I cho), b, [], 0⟩
            | false => match Nat.beq f 146 with
              | true => some ⟨.d (B true), b, [], 0⟩
              | false => match Nat.beq f 83 with
                | true => match a with
                  | [g, _, _] => some ⟨.tup [g, .d (.sl [])], b, [], 0⟩
                  | _ => none
                | false => none
noncomputable abbrev cD (R : List (List D)) (gk : Int) (Rl : List (List D)) (G G2 : D) (Rb : List (List D)) (ac rr at_ ri cho : Int) : CF := cA VPR vft.get (AD R gk Rl G G2 Rb ac rr at_ ri cho) 400 60
theorem cD_ok (R : List (List D)) (gk : Int) (Rl : List (List D)) (G G2 : D) (Rb : List (List D)) (ac rr at_ ri cho : Int) : CFok VPR (cD R gk Rl G G2 Rb ac rr at_ ri cho) := cA_ok vft_okR _ 400 60
abbrev pkX (x : Bx) : V := pkV x.f x.h x.a0 x.a1 x.p1 x.l1 x.r1
abbrev pkC (x : Bx) : List V := [.d (I x.f), .d (dU x.h), .d (dU x.a0), .d (I x.f), .d (dU x.h), .d (dU x.a1), .d (I x.p1), .d (I x.l1), .d (I x.r1), .d (I 0)]
abbrev kyC : List V := [.d (I 2), .d (I 70), .d (.sl [])]
abbrev gwF (Rl : List (List D)) (G : D) (x : Bx) (ri s : Int) : List V := [.d (I 0), .d (I 1), .d (I 1), .d (I 2), .d (.sl Rl), .d G, .d (I 0), .d (I 2), .d (I 2), .d (I 1), .d (.sl []), .d (I 2), .d (I 2), .d (.sl []), .d (I 0), .d (.sl []), .sl 81 [saL] .full, .sl 42 [chL x ri s] .full, .d (.sl [])]
abbrev g0L (Rl : List (List D)) (G : D) : List V := [.d (I 0), .d (I 1), .d (I 1), .d (I 2), .d (.sl Rl), .d G, .d (I 0), .d (I 2), .d (I 2), .d (I 1), .d (.sl []), .d (I 2), .d (I 2), .d (.sl []), .d (I 0), .d (.sl []), .d (.sl []), .d (.sl []), .d (.sl [])]
abbrev gbL (Rb : List (List D)) (G2 : D) : List V := [.d (I 1), .d (I 0), .d (I 2), .d (I 1), .d (.sl Rb), .d G2, .d (I 0), .d (I 2), .d (I 2), .d (I 1048577), .d (.sl []), .d (I 2), .d (I 1048578), .d (.sl []), .d (I 0), .d (.sl []), .d (.sl []), .d (.sl []), .d (.sl [])]
abbrev blD (R : List (List D)) (gk : Int) (A : List V) (Rb : List (List D)) (G2 : D) (x : Bx) : List (List V) := [[.d (.sl R), .d (I gk)], A, gbL Rb G2, x.row.map .d, pkC x, kyC]
abbrev tsD (at_ k : Int) : List V := [.ptr 1 0, .ptr 4 0, .ptr 5 0, .d (I at_), .d (I k)]
abbrev P81 (Rl : List (List D)) (G : D) (x : Bx) (ri s c : Int) : Prop := CV VPR 81 [.agg (gwL Rl G x ri s), .d (I ri), pkX x] [] = some ⟨.d (I c), [], [], 0⟩
abbrev P77 (Rl : List (List D)) (x : Bx) (ri : Int) : Prop := CV VPR 77 [.d (.sl Rl), pkX x, .d (B true)] [] = some ⟨.tup [.d (I 2), .d (I ri)], [], [], 0⟩
abbrev P83 (Rl : List (List D)) (G : D) (x : Bx) (ri s : Int) : Prop := CV VPR 83 [.agg (gwL Rl G x ri s), .d (I ri), pkX x] [] = some ⟨.tup [.agg (gwL Rl G x ri s), .d (.sl [])], [], [], 0⟩
abbrev P22 (Rl : List (List D)) (x : Bx) (ac rr : Int) : Prop := CV VPR 22 [.d (.sl Rl), pkX x, .d (B true)] [] = some ⟨.tup [.d (I ac), .d (I rr)], [], [], 0⟩
abbrev P21 (R : List (List D)) (gk : Int) (Rl Rb : List (List D)) (G G2 : D) : Prop := CV VPR 21 [.ptr 0 0] [[.d (.sl R), .d (I 0)]] = some ⟨.tup [.agg (g0L Rl G), .agg (gbL Rb G2)], [[.d (.sl R), .d (I gk)]], [], 0⟩
abbrev P11 (R X : List (List D)) : Prop := CV VPR 11 [.d (.sl X), .d (I 80)] [] = some ⟨.ptr 0 0, [[.sl 1 R (.own 0 0), .d (I 0)]], [0], 1⟩
abbrev P24 (st at_ : Int) : Prop := CV VPR 24 [.d (I st), .d (I 200)] [] = some ⟨.d (I at_), [], [], 0⟩
theorem dBg {R Rl Rb : List (List D)} {G G2 : D} {gk ri s k at_ : Int} {x : Bx} (h77 : P77 Rl x ri) (h81 : P81 Rl G x ri s 9) (hk : k ≤ 20) (h200 : wF (at_ + k) ≤ 200) (hsk : wF (s + 1) = wF (at_ + k)) {Q : VExit → St → Prop}
    (hnext : ∀ st, At vf4K1 6 st (keepT vf4K1 (tsD at_ (wF (k + 1)))) (blD R gk (gwL Rl G x ri (wF (s + 1))) Rb G2 x) [0] 1 0 → RL VPR vf4K1 vf4L1 6 st Q) : RX VPR vf4L1 ⟨keepT vf4K1 (tsD at_ k), blD R gk (gwL Rl G x ri s) Rb G2 x, [0], 1, 0, 0⟩ (again VPR vf4K1 vf4L1 6 Q) :=
  RX_round (us := [.ptr 1 0, .ptr 4 0, .ptr 5 0, .d (I at_), .d (I (wF (k + 1)))]) (bl' := [[.d (.sl R), .d (I gk)], [.d (I 0), .d (I 1), .d (I 1), .d (I 2), .d (.sl Rl), .d G, .d (I 0), .d (I 2), .d (I 2), .d (I 1), .d (.sl []), .d (I 2), .d (I 2), .d (.sl []), .d (I 0), .d (.sl []), .d (.sl [[I 5, I 6, B false, I 3, I 1, I 2, I 0, I 0, .sl [], I 0, I 0, .sl [], I 0, I 0, .sl [], I 0, I 0, .sl [], I 0, I 0, .sl [], I 0, I 0, .sl [], I 0, I 0, .sl [], I 0, I 0, I 0, I 0, I 0, I 0, .sl [], I 0, I 0, I 0, I 0, I 0, .sl [], I 0, I 0, .sl [], I 0, I 0, I 0, I 0, dU 0, dU 0, I 0, dU 0, dU 0, I 0, dU 0, dU 0, I 0, dU 0, dU 0, I 0, I 0, I 0, I 0, I 0, I 0, I 0, I 0, .sl [], .sl [], I 0, I 0, I 0, .sl [], I 0, I 0, I 0, I 9, I 0, B false, I 0, B false, I 0]]), .d (.sl [[I 9, I 8, I 5, I ri, I x.f, dU x.h, dU x.a0, I x.f, dU x.h, dU x.b0, I x.f, dU x.h, dU x.a1, I x.f, dU x.h, dU x.b1, I x.p0, I x.p1, I x.l0, I x.l1, I x.r0, I x.r1, I 0, I 0, .sl [], I 2, I 70, .sl [], B false, I 0, I 0, .sl [], I 0, I 0, .sl [], I 1, I (wF (s + 1)), I 0, dU 0, .sl [], I 0, I 0]]), .d (.sl [])], [.d (I 1), .d (I 0), .d (I 2), .d (I 1), .d (.sl Rb), .d G2, .d (I 0), .d (I 2), .d (I 2), .d (I 1048577), .d (.sl []), .d (I 2), .d (I 1048578), .d (.sl []), .d (I 0), .d (.sl []), .d (.sl []), .d (.sl []), .d (.sl [])], [.d (I x.f), .d (dU x.h), .d (dU x.a0), .d (I x.f), .d (dU x.h), .d (dU x.b0), .d (I x.f), .d (dU x.h), .d (dU x.a1), .d (I x.f), .d (dU x.h), .d (dU x.b1), .d (I x.p0), .d (I x.p1), .d (I x.l0), .d (I x.l1), .d (I x.r0), .d (I x.r1)], [.d (I x.f), .d (dU x.h), .d (dU x.a0), .d (I x.f), .d (dU x.h), .d (dU x.a1), .d (I x.p1), .d (I x.l1), .d (I x.r1), .d (I 0)], [.d (I 2), .d (I 70), .d (.sl [])], [.d (I 0), .d (I 1), .d (I 1), .d (I 2), .d (.sl Rl), .d G, .d (I 0), .d (I 2), .d (I 2), .d (I 1), .d (.sl []), .d (I 2), .d (I 2), .d (.sl []), .d (I 0), .d (.sl []), .d (.sl [[I 5, I 6, B false, I 3, I 1, I 2, I 0, I 0, .sl [], I 0, I 0, .sl [], I 0, I 0, .sl [], I 0, I 0, .sl [], I 0, I 0, .sl [], I 0, I 0, .sl [], I 0, I 0, .sl [], I 0, I 0, I 0, I 0, I 0, I 0, .sl [], I 0, I 0, I 0, I 0, I 0, .sl [], I 0, I 0, .sl [], I 0, I 0, I 0, I 0, dU 0, dU 0, I 0, dU 0, dU 0, I 0, dU 0, dU 0, I 0, dU 0, dU 0, I 0, I 0, I 0, I 0, I 0, I 0, I 0, I 0, .sl [], .sl [], I 0, I 0, I 0, .sl [], I 0, I 0, I 0, I 9, I 0, B false, I 0, B false, I 0]]), .d (.sl [[I 9, I 8, I 5, I ri, I x.f, dU x.h, dU x.a0, I x.f, dU x.h, dU x.b0, I x.f, dU x.h, dU x.a1, I x.f, dU x.h, dU x.b1, I x.p0, I x.p1, I x.l0, I x.l1, I x.r0, I x.r1, I 0, I 0, .sl [], I 2, I 70, .sl [], B false, I 0, I 0, .sl [], I 0, I 0, .sl [], I 1, I (wF (s + 1)), I 0, dU 0, .sl [], I 0, I 0]]), .d (.sl [])], [.d (.sl [[I 1, I 2, I 3, I 0, .sl [[I 1, I 50, .sl []], [I 1, I 8, .sl []], [I 1, I (Int.tmod (wF (s + 1)) 16), .sl []], [I 7, I 0, .sl [[I 2, I 70, .sl []], [I 3, I 0, .sl [[I 1, I 8, .sl []], [I 1, I (wF (s + 1)), .sl []], [I 3, I 0, .sl [[I 1, I x.f, .sl []], [I 1, I (wF x.h), .sl []], [I 1, I (wF x.a0), .sl []], [I 1, I x.f, .sl []], [I 1, I (wF x.h), .sl []], [I 1, I (wF x.a1), .sl []], [I 1, I x.p1, .sl []], [I 1, I x.l1, .sl []], [I 1, I x.r1, .sl []], [I 1, I 0, .sl []]]]]]]]]]]), .d (.sl []), .d (.sl []), .d (.sl [[I 0, I x.f, dU x.h, dU x.a0, I x.f, dU x.h, dU x.a1, I x.p1, I x.l1, I x.r1, I 0, I ri, I 9]]), .d (.sl []), .d (.sl [])], [.d (I 3), .d (I 0), .d (.sl [[I 1, I 50, .sl []], [I 1, I 8, .sl []], [I 1, I (Int.tmod (wF (s + 1)) 16), .sl []], [I 7, I 0, .sl [[I 2, I 70, .sl []], [I 3, I 0, .sl [[I 1, I 8, .sl []], [I 1, I (wF (s + 1)), .sl []], [I 3, I 0, .sl [[I 1, I x.f, .sl []], [I 1, I (wF x.h), .sl []], [I 1, I (wF x.a0), .sl []], [I 1, I x.f, .sl []], [I 1, I (wF x.h), .sl []], [I 1, I (wF x.a1), .sl []], [I 1, I x.p1, .sl []], [I 1, I x.l1, .sl []], [I 1, I x.r1, .sl []], [I 1, I 0, .sl []]]]]]]]])], [.d (I 3), .d (I 0), .d (.sl [[I 1, I 8, .sl []], [I 1, I (wF (s + 1)), .sl []], [I 3, I 0, .sl [[I 1, I x.f, .sl []], [I 1, I (wF x.h), .sl []], [I 1, I (wF x.a0), .sl []], [I 1, I x.f, .sl []], [I 1, I (wF x.h), .sl []], [I 1, I (wF x.a1), .sl []], [I 1, I x.p1, .sl []], [I 1, I x.l1, .sl []], [I 1, I x.r1, .sl []], [I 1, I 0, .sl []]]]])]]) (lv' := [0]) (gn' := 1) (cD_ok R gk Rl G G2 Rb 0 0 at_ ri 9) 400 [(0, true), (9, true), (9, true), (0, true), (0, true), (0, true), (36, true), (13, true), (0, false), (18, true), (2, false), (8, true), (1, true), (2, false), (50, true), (2, false), (0, true)] [] (ob := [((!(eqF (wF (s + 1)) (wF (at_ + k)))), false), ((!(eqF (Int.tmod (wF (s + 1)) 16) (Int.tmod (wF (at_ + k)) 16))), false), ((!(eqF (wF (s + 1)) (wF (at_ + k)))), false), ((!(leF (wF (at_ + k)) 200)), false), ((prB (([.d (I 0), .d (I 1), .d (I 1), .d (I 2), .d (.sl Rl), .d G, .d (I 0), .d (I 2), .d (I 2), .d (I 1), .d (.sl []), .d (I 2), .d (I 2), .d (.sl []), .d (I 0), .d (.sl []), .d (.sl [[I 5, I 6, B false, I 3, I 1, I 2, I 0, I 0, .sl [], I 0, I 0, .sl [], I 0, I 0, .sl [], I 0, I 0, .sl [], I 0, I 0, .sl [], I 0, I 0, .sl [], I 0, I 0, .sl [], I 0, I 0, I 0, I 0, I 0, I 0, .sl [], I 0, I 0, I 0, I 0, I 0, .sl [], I 0, I 0, .sl [], I 0, I 0, I 0, I 0, dU 0, dU 0, I 0, dU 0, dU 0, I 0, dU 0, dU 0, I 0, dU 0, dU 0, I 0, I 0, I 0, I 0, I 0, I 0, I 0, I 0, .sl [], .sl [], I 0, I 0, I 0, .sl [], I 0, I 0, I 0, I 9, I 0, B false, I 0, B false, I 0]]), .loc 4 0 1 42, .d (.sl [])] : List V) = [.d (I 0), .d (I 1), .d (I 1), .d (I 2), .d (.sl Rl), .d G, .d (I 0), .d (I 2), .d (I 2), .d (I 1), .d (.sl []), .d (I 2), .d (I 2), .d (.sl []), .d (I 0), .d (.sl []), .d (.sl [[I 5, I 6, B false, I 3, I 1, I 2, I 0, I 0, .sl [], I 0, I 0, .sl [], I 0, I 0, .sl [], I 0, I 0, .sl [], I 0, I 0, .sl [], I 0, I 0, .sl [], I 0, I 0, .sl [], I 0, I 0, I 0, I 0, I 0, I 0, .sl [], I 0, I 0, I 0, I 0, I 0, .sl [], I 0, I 0, .sl [], I 0, I 0, I 0, I 0, dU 0, dU 0, I 0, dU 0, dU 0, I 0, dU 0, dU 0, I 0, dU 0, dU 0, I 0, I 0, I 0, I 0, I 0, I 0, I 0, I 0, .sl [], .sl [], I 0, I 0, I 0, .sl [], I 0, I 0, I 0, I 9, I 0, B false, I 0, B false, I 0]]), .loc 4 0 1 42, .d (.sl [])])), true), (prB (P81 Rl G x ri s 9), true), (prB (P77 Rl x ri), true), ((leF k 20), true)]) (by kernel_rfl) (.cons (by rw [eqT hsk]; rfl) <| .cons (by rw [hsk, eqT rfl]; rfl) <| .cons (by rw [eqT hsk]; rfl) <| .cons (by rw [leT h200]; rfl) <| .cons (prB_of rfl) <| .cons (prB_of h81) <| .cons (prB_of h77) <| .cons (leT hk) <| .nil) (by kernel_rfl) hnext
theorem dBf {R Rl Rb : List (List D)} {G G2 : D} {gk ri s k at_ : Int} {x : Bx} (h77 : P77 Rl x ri) (h81 : P81 Rl G x ri s 9) (hk : k ≤ 20) (h200 : wF (at_ + k) ≤ 200) (hsk : wF (s + 1) = wF (at_ + k)) {Q : VExit → St → Prop}
    (hnext : ∀ st, At vf4K1 6 st (keepT vf4K1 (tsD at_ (wF (k + 1)))) (blD R gk (gwL Rl G x ri (wF (s + 1))) Rb G2 x) [0] 1 0 → RL VPR vf4K1 vf4L1 6 st Q) : RX VPR vf4L1 ⟨keepT vf4K1 (tsD at_ k), blD R gk (gwF Rl G x ri s) Rb G2 x, [0], 1, 0, 0⟩ (again VPR vf4K1 vf4L1 6 Q) :=
  RX_round (us := [.ptr 1 0, .ptr 4 0, .ptr 5 0, .d (I at_), .d (I (wF (k + 1)))]) (bl' := [[.d (.sl R), .d (I gk)], [.d (I 0), .d (I 1), .d (I 1), .d (I 2), .d (.sl Rl), .d G, .d (I 0), .d (I 2), .d (I 2), .d (I 1), .d (.sl []), .d (I 2), .d (I 2), .d (.sl []), .d (I 0), .d (.sl []), .d (.sl [[I 5, I 6, B false, I 3, I 1, I 2, I 0, I 0, .sl [], I 0, I 0, .sl [], I 0, I 0, .sl [], I 0, I 0, .sl [], I 0, I 0, .sl [], I 0, I 0, .sl [], I 0, I 0, .sl [], I 0, I 0, I 0, I 0, I 0, I 0, .sl [], I 0, I 0, I 0, I 0, I 0, .sl [], I 0, I 0, .sl [], I 0, I 0, I 0, I 0, dU 0, dU 0, I 0, dU 0, dU 0, I 0, dU 0, dU 0, I 0, dU 0, dU 0, I 0, I 0, I 0, I 0, I 0, I 0, I 0, I 0, .sl [], .sl [], I 0, I 0, I 0, .sl [], I 0, I 0, I 0, I 9, I 0, B false, I 0, B false, I 0]]), .d (.sl [[I 9, I 8, I 5, I ri, I x.f, dU x.h, dU x.a0, I x.f, dU x.h, dU x.b0, I x.f, dU x.h, dU x.a1, I x.f, dU x.h, dU x.b1, I x.p0, I x.p1, I x.l0, I x.l1, I x.r0, I x.r1, I 0, I 0, .sl [], I 2, I 70, .sl [], B false, I 0, I 0, .sl [], I 0, I 0, .sl [], I 1, I (wF (s + 1)), I 0, dU 0, .sl [], I 0, I 0]]), .d (.sl [])], [.d (I 1), .d (I 0), .d (I 2), .d (I 1), .d (.sl Rb), .d G2, .d (I 0), .d (I 2), .d (I 2), .d (I 1048577), .d (.sl []), .d (I 2), .d (I 1048578), .d (.sl []), .d (I 0), .d (.sl []), .d (.sl []), .d (.sl []), .d (.sl [])], [.d (I x.f), .d (dU x.h), .d (dU x.a0), .d (I x.f), .d (dU x.h), .d (dU x.b0), .d (I x.f), .d (dU x.h), .d (dU x.a1), .d (I x.f), .d (dU x.h), .d (dU x.b1), .d (I x.p0), .d (I x.p1), .d (I x.l0), .d (I x.l1), .d (I x.r0), .d (I x.r1)], [.d (I x.f), .d (dU x.h), .d (dU x.a0), .d (I x.f), .d (dU x.h), .d (dU x.a1), .d (I x.p1), .d (I x.l1), .d (I x.r1), .d (I 0)], [.d (I 2), .d (I 70), .d (.sl [])], [.d (I 0), .d (I 1), .d (I 1), .d (I 2), .d (.sl Rl), .d G, .d (I 0), .d (I 2), .d (I 2), .d (I 1), .d (.sl []), .d (I 2), .d (I 2), .d (.sl []), .d (I 0), .d (.sl []), .d (.sl [[I 5, I 6, B false, I 3, I 1, I 2, I 0, I 0, .sl [], I 0, I 0, .sl [], I 0, I 0, .sl [], I 0, I 0, .sl [], I 0, I 0, .sl [], I 0, I 0, .sl [], I 0, I 0, .sl [], I 0, I 0, I 0, I 0, I 0, I 0, .sl [], I 0, I 0, I 0, I 0, I 0, .sl [], I 0, I 0, .sl [], I 0, I 0, I 0, I 0, dU 0, dU 0, I 0, dU 0, dU 0, I 0, dU 0, dU 0, I 0, dU 0, dU 0, I 0, I 0, I 0, I 0, I 0, I 0, I 0, I 0, .sl [], .sl [], I 0, I 0, I 0, .sl [], I 0, I 0, I 0, I 9, I 0, B false, I 0, B false, I 0]]), .d (.sl [[I 9, I 8, I 5, I ri, I x.f, dU x.h, dU x.a0, I x.f, dU x.h, dU x.b0, I x.f, dU x.h, dU x.a1, I x.f, dU x.h, dU x.b1, I x.p0, I x.p1, I x.l0, I x.l1, I x.r0, I x.r1, I 0, I 0, .sl [], I 2, I 70, .sl [], B false, I 0, I 0, .sl [], I 0, I 0, .sl [], I 1, I (wF (s + 1)), I 0, dU 0, .sl [], I 0, I 0]]), .d (.sl [])], [.d (.sl [[I 1, I 2, I 3, I 0, .sl [[I 1, I 50, .sl []], [I 1, I 8, .sl []], [I 1, I (Int.tmod (wF (s + 1)) 16), .sl []], [I 7, I 0, .sl [[I 2, I 70, .sl []], [I 3, I 0, .sl [[I 1, I 8, .sl []], [I 1, I (wF (s + 1)), .sl []], [I 3, I 0, .sl [[I 1, I x.f, .sl []], [I 1, I (wF x.h), .sl []], [I 1, I (wF x.a0), .sl []], [I 1, I x.f, .sl []], [I 1, I (wF x.h), .sl []], [I 1, I (wF x.a1), .sl []], [I 1, I x.p1, .sl []], [I 1, I x.l1, .sl []], [I 1, I x.r1, .sl []], [I 1, I 0, .sl []]]]]]]]]]]), .d (.sl []), .d (.sl []), .d (.sl [[I 0, I x.f, dU x.h, dU x.a0, I x.f, dU x.h, dU x.a1, I x.p1, I x.l1, I x.r1, I 0, I ri, I 9]]), .d (.sl []), .d (.sl [])], [.d (I 3), .d (I 0), .d (.sl [[I 1, I 50, .sl []], [I 1, I 8, .sl []], [I 1, I (Int.tmod (wF (s + 1)) 16), .sl []], [I 7, I 0, .sl [[I 2, I 70, .sl []], [I 3, I 0, .sl [[I 1, I 8, .sl []], [I 1, I (wF (s + 1)), .sl []], [I 3, I 0, .sl [[I 1, I x.f, .sl []], [I 1, I (wF x.h), .sl []], [I 1, I (wF x.a0), .sl []], [I 1, I x.f, .sl []], [I 1, I (wF x.h), .sl []], [I 1, I (wF x.a1), .sl []], [I 1, I x.p1, .sl []], [I 1, I x.l1, .sl []], [I 1, I x.r1, .sl []], [I 1, I 0, .sl []]]]]]]]])], [.d (I 3), .d (I 0), .d (.sl [[I 1, I 8, .sl []], [I 1, I (wF (s + 1)), .sl []], [I 3, I 0, .sl [[I 1, I x.f, .sl []], [I 1, I (wF x.h), .sl []], [I 1, I (wF x.a0), .sl []], [I 1, I x.f, .sl []], [I 1, I (wF x.h), .sl []], [I 1, I (wF x.a1), .sl []], [I 1, I x.p1, .sl []], [I 1, I x.l1, .sl []], [I 1, I x.r1, .sl []], [I 1, I 0, .sl []]]]])]]) (lv' := [0]) (gn' := 1) (cD_ok R gk Rl G G2 Rb 0 0 at_ ri 9) 400 [(0, true), (9, true), (9, true), (0, true), (0, true), (0, true), (36, true), (13, true), (0, false), (18, true), (2, false), (8, true), (1, true), (2, false), (50, true), (2, false), (0, true)] [] (ob := [((!(eqF (wF (s + 1)) (wF (at_ + k)))), false), ((!(eqF (Int.tmod (wF (s + 1)) 16) (Int.tmod (wF (at_ + k)) 16))), false), ((!(eqF (wF (s + 1)) (wF (at_ + k)))), false), ((!(leF (wF (at_ + k)) 200)), false), ((prB (([.d (I 0), .d (I 1), .d (I 1), .d (I 2), .d (.sl Rl), .d G, .d (I 0), .d (I 2), .d (I 2), .d (I 1), .d (.sl []), .d (I 2), .d (I 2), .d (.sl []), .d (I 0), .d (.sl []), .d (.sl [[I 5, I 6, B false, I 3, I 1, I 2, I 0, I 0, .sl [], I 0, I 0, .sl [], I 0, I 0, .sl [], I 0, I 0, .sl [], I 0, I 0, .sl [], I 0, I 0, .sl [], I 0, I 0, .sl [], I 0, I 0, I 0, I 0, I 0, I 0, .sl [], I 0, I 0, I 0, I 0, I 0, .sl [], I 0, I 0, .sl [], I 0, I 0, I 0, I 0, dU 0, dU 0, I 0, dU 0, dU 0, I 0, dU 0, dU 0, I 0, dU 0, dU 0, I 0, I 0, I 0, I 0, I 0, I 0, I 0, I 0, .sl [], .sl [], I 0, I 0, I 0, .sl [], I 0, I 0, I 0, I 9, I 0, B false, I 0, B false, I 0]]), .loc 4 0 1 42, .d (.sl [])] : List V) = [.d (I 0), .d (I 1), .d (I 1), .d (I 2), .d (.sl Rl), .d G, .d (I 0), .d (I 2), .d (I 2), .d (I 1), .d (.sl []), .d (I 2), .d (I 2), .d (.sl []), .d (I 0), .d (.sl []), .d (.sl [[I 5, I 6, B false, I 3, I 1, I 2, I 0, I 0, .sl [], I 0, I 0, .sl [], I 0, I 0, .sl [], I 0, I 0, .sl [], I 0, I 0, .sl [], I 0, I 0, .sl [], I 0, I 0, .sl [], I 0, I 0, I 0, I 0, I 0, I 0, .sl [], I 0, I 0, I 0, I 0, I 0, .sl [], I 0, I 0, .sl [], I 0, I 0, I 0, I 0, dU 0, dU 0, I 0, dU 0, dU 0, I 0, dU 0, dU 0, I 0, dU 0, dU 0, I 0, I 0, I 0, I 0, I 0, I 0, I 0, I 0, .sl [], .sl [], I 0, I 0, I 0, .sl [], I 0, I 0, I 0, I 9, I 0, B false, I 0, B false, I 0]]), .loc 4 0 1 42, .d (.sl [])])), true), (prB (P81 Rl G x ri s 9), true), (prB (P77 Rl x ri), true), ((leF k 20), true)]) (by kernel_rfl) (.cons (by rw [eqT hsk]; rfl) <| .cons (by rw [hsk, eqT rfl]; rfl) <| .cons (by rw [eqT hsk]; rfl) <| .cons (by rw [leT h200]; rfl) <| .cons (prB_of rfl) <| .cons (prB_of h81) <| .cons (prB_of h77) <| .cons (leT hk) <| .nil) (by kernel_rfl) hnext
theorem RX_lastR {VP : VProg} {C : CF} (hC : CFok VP C) (F : Nat) (fl : List (Nat × Bool)) (vs : List Int) {keep : List Bool} {b : VCode} {k : Nat} {Q : VExit → St → Prop} {ks : List Nat} {ts : List V} {bl bl' : List (List V)} {lv lv' : List Nat} {gn gn' ba : Nat}
    {us : List V} {ob : List (Bool × Bool)} (h : segF C F fl vs b ks ts bl lv gn ba = some (⟨.tup (.fn 1 [] :: us), bl', lv', gn'⟩, ob)) (ho : OKs ob)
    (hnext : ∀ st, Seg ks ts.length us bl' lv' gn' ba st → Q .ret st) : RX VP b ⟨ts, bl, lv, gn, ba, 0⟩ (again VP keep b k Q) := by
  refine RX_wish (seg_some hC F fl vs h ho) fun e st hs => ?_
  obtain ⟨he, hs⟩ := hs
  cases e with
  | normal => simp [exN] at he
  | exit j => simp [exN] at he
  | ret => exact hnext st hs
theorem dBe {R Rl Rb : List (List D)} {G G2 : D} {gk ri s k at_ : Int} {x : Bx} (h77 : P77 Rl x ri) (h81 : P81 Rl G x ri s 0) (h83 : P83 Rl G x ri s) (hk : k ≤ 20) (h200 : 200 < wF (at_ + k)) {Q : VExit → St → Prop}
    (hnext : ∀ st, st.tmps.getD 4 .any = .d (B true) → Q .ret st) : RX VPR vf4L1 ⟨keepT vf4K1 (tsD at_ k), blD R gk (gwL Rl G x ri s) Rb G2 x, [0], 1, 0, 0⟩ (again VPR vf4K1 vf4L1 6 Q) :=
  RX_lastR (ks := [4]) (us := [.d (B true)]) (bl' := [[.d (.sl R), .d (I gk)], [.d (I 0), .d (I 1), .d (I 1), .d (I 2), .d (.sl Rl), .d G, .d (I 0), .d (I 2), .d (I 2), .d (I 1), .d (.sl []), .d (I 2), .d (I 2), .d (.sl []), .d (I 0), .d (.sl []), .d (.sl [[I 5, I 6, B false, I 3, I 1, I 2, I 0, I 0, .sl [], I 0, I 0, .sl [], I 0, I 0, .sl [], I 0, I 0, .sl [], I 0, I 0, .sl [], I 0, I 0, .sl [], I 0, I 0, .sl [], I 0, I 0, I 0, I 0, I 0, I 0, .sl [], I 0, I 0, I 0, I 0, I 0, .sl [], I 0, I 0, .sl [], I 0, I 0, I 0, I 0, dU 0, dU 0, I 0, dU 0, dU 0, I 0, dU 0, dU 0, I 0, dU 0, dU 0, I 0, I 0, I 0, I 0, I 0, I 0, I 0, I 0, .sl [], .sl [], I 0, I 0, I 0, .sl [], I 0, I 0, I 0, I 9, I 0, B false, I 0, B false, I 0]]), .d (.sl [[I 9, I 8, I 5, I ri, I x.f, dU x.h, dU x.a0, I x.f, dU x.h, dU x.b0, I x.f, dU x.h, dU x.a1, I x.f, dU x.h, dU x.b1, I x.p0, I x.p1, I x.l0, I x.l1, I x.r0, I x.r1, I 0, I 0, .sl [], I 2, I 70, .sl [], B false, I 0, I 0, .sl [], I 0, I 0, .sl [], I 1, I s, I 0, dU 0, .sl [], I 0, I 0]]), .d (.sl [])], [.d (I 1), .d (I 0), .d (I 2), .d (I 1), .d (.sl Rb), .d G2, .d (I 0), .d (I 2), .d (I 2), .d (I 1048577), .d (.sl []), .d (I 2), .d (I 1048578), .d (.sl []), .d (I 0), .d (.sl []), .d (.sl []), .d (.sl []), .d (.sl [])], [.d (I x.f), .d (dU x.h), .d (dU x.a0), .d (I x.f), .d (dU x.h), .d (dU x.b0), .d (I x.f), .d (dU x.h), .d (dU x.a1), .d (I x.f), .d (dU x.h), .d (dU x.b1), .d (I x.p0), .d (I x.p1), .d (I x.l0), .d (I x.l1), .d (I x.r0), .d (I x.r1)], [.d (I x.f), .d (dU x.h), .d (dU x.a0), .d (I x.f), .d (dU x.h), .d (dU x.a1), .d (I x.p1), .d (I x.l1), .d (I x.r1), .d (I 0)], [.d (I 2), .d (I 70), .d (.sl [])], [.d (I 0), .d (I 1), .d (I 1), .d (I 2), .d (.sl Rl), .d G, .d (I 0), .d (I 2), .d (I 2), .d (I 1), .d (.sl []), .d (I 2), .d (I 2), .d (.sl []), .d (I 0), .d (.sl []), .d (.sl [[I 5, I 6, B false, I 3, I 1, I 2, I 0, I 0, .sl [], I 0, I 0, .sl [], I 0, I 0, .sl [], I 0, I 0, .sl [], I 0, I 0, .sl [], I 0, I 0, .sl [], I 0, I 0, .sl [], I 0, I 0, I 0, I 0, I 0, I 0, .sl [], I 0, I 0, I 0, I 0, I 0, .sl [], I 0, I 0, .sl [], I 0, I 0, I 0, I 0, dU 0, dU 0, I 0, dU 0, dU 0, I 0, dU 0, dU 0, I 0, dU 0, dU 0, I 0, I 0, I 0, I 0, I 0, I 0, I 0, I 0, .sl [], .sl [], I 0, I 0, I 0, .sl [], I 0, I 0, I 0, I 9, I 0, B false, I 0, B false, I 0]]), .d (.sl [[I 9, I 8, I 5, I ri, I x.f, dU x.h, dU x.a0, I x.f, dU x.h, dU x.b0, I x.f, dU x.h, dU x.a1, I x.f, dU x.h, dU x.b1, I x.p0, I x.p1, I x.l0, I x.l1, I x.r0, I x.r1, I 0, I 0, .sl [], I 2, I 70, .sl [], B false, I 0, I 0, .sl [], I 0, I 0, .sl [], I 1, I s, I 0, dU 0, .sl [], I 0, I 0]]), .d (.sl [])], [.d (.sl []), .d (.sl []), .d (.sl []), .d (.sl []), .d (.sl []), .d (.sl [])]]) (lv' := [0]) (gn' := 1) (cD_ok R gk Rl G G2 Rb 0 0 at_ ri 0) 400 [(0, true), (6, true), (0, true)] [] (ob := [((!(leF (wF (at_ + k)) 200)), true), (prB (P83 Rl G x ri s), true), (prB (P81 Rl G x ri s 0), true), (prB (P77 Rl x ri), true), ((leF k 20), true)]) (by kernel_rfl) (.cons (by rw [leN h200]; rfl) <| .cons (prB_of h83) <| .cons (prB_of h81) <| .cons (prB_of h77) <| .cons (leT hk) <| .nil) fun st hs => hnext st (by have := hs.get; simpa using this)
theorem dBx {R Rl Rb : List (List D)} {G G2 : D} {gk ri s k at_ : Int} {x : Bx} (hk : 20 < k) {Q : VExit → St → Prop}
    (hnext : ∀ st, st.tmps.length = 208 → Q (.exit 2) st) : RX VPR vf4L1 ⟨keepT vf4K1 (tsD at_ k), blD R gk (gwL Rl G x ri s) Rb G2 x, [0], 1, 0, 0⟩ (again VPR vf4K1 vf4L1 6 Q) :=
  RX_last (ks := []) (us := []) (bl' := [[.d (.sl R), .d (I gk)], [.d (I 0), .d (I 1), .d (I 1), .d (I 2), .d (.sl Rl), .d G, .d (I 0), .d (I 2), .d (I 2), .d (I 1), .d (.sl []), .d (I 2), .d (I 2), .d (.sl []), .d (I 0), .d (.sl []), .d (.sl [[I 5, I 6, B false, I 3, I 1, I 2, I 0, I 0, .sl [], I 0, I 0, .sl [], I 0, I 0, .sl [], I 0, I 0, .sl [], I 0, I 0, .sl [], I 0, I 0, .sl [], I 0, I 0, .sl [], I 0, I 0, I 0, I 0, I 0, I 0, .sl [], I 0, I 0, I 0, I 0, I 0, .sl [], I 0, I 0, .sl [], I 0, I 0, I 0, I 0, dU 0, dU 0, I 0, dU 0, dU 0, I 0, dU 0, dU 0, I 0, dU 0, dU 0, I 0, I 0, I 0, I 0, I 0, I 0, I 0, I 0, .sl [], .sl [], I 0, I 0, I 0, .sl [], I 0, I 0, I 0, I 9, I 0, B false, I 0, B false, I 0]]), .d (.sl [[I 9, I 8, I 5, I ri, I x.f, dU x.h, dU x.a0, I x.f, dU x.h, dU x.b0, I x.f, dU x.h, dU x.a1, I x.f, dU x.h, dU x.b1, I x.p0, I x.p1, I x.l0, I x.l1, I x.r0, I x.r1, I 0, I 0, .sl [], I 2, I 70, .sl [], B false, I 0, I 0, .sl [], I 0, I 0, .sl [], I 1, I s, I 0, dU 0, .sl [], I 0, I 0]]), .d (.sl [])], [.d (I 1), .d (I 0), .d (I 2), .d (I 1), .d (.sl Rb), .d G2, .d (I 0), .d (I 2), .d (I 2), .d (I 1048577), .d (.sl []), .d (I 2), .d (I 1048578), .d (.sl []), .d (I 0), .d (.sl []), .d (.sl []), .d (.sl []), .d (.sl [])], [.d (I x.f), .d (dU x.h), .d (dU x.a0), .d (I x.f), .d (dU x.h), .d (dU x.b0), .d (I x.f), .d (dU x.h), .d (dU x.a1), .d (I x.f), .d (dU x.h), .d (dU x.b1), .d (I x.p0), .d (I x.p1), .d (I x.l0), .d (I x.l1), .d (I x.r0), .d (I x.r1)], [.d (I x.f), .d (dU x.h), .d (dU x.a0), .d (I x.f), .d (dU x.h), .d (dU x.a1), .d (I x.p1), .d (I x.l1), .d (I x.r1), .d (I 0)], [.d (I 2), .d (I 70), .d (.sl [])]]) (lv' := [0]) (gn' := 1) (i := 2) (cD_ok R gk Rl G G2 Rb 0 0 at_ ri 9) 400 [(0, false)] [] (ob := [((leF k 20), false)]) (by kernel_rfl) (.cons (leN hk) <| .nil) fun st hs => hnext st (hs.len.trans (by kernel_rfl))
abbrev shD0 (x : Bx) (ro rp rq : List D) (rt0 rt1 : D) : List (List D) := [[I 2, .lit (.string ⟨#[103, 111, 108, 100]⟩), .sl [x.row]]]
theorem d83_0 (x : Bx) (ro rp rq : List D) (rt0 rt1 : D) (G : D) (s : Int) (h146 : CV VPR 146 [x.ag, pkX x, .d (B true)] [] = some ⟨.d (B true), [], [], 0⟩) : P83 (shD0 x ro rp rq rt0 rt1) G x 0 s :=
  CV_R (cD_ok [] 0 [] G G [] 0 0 0 0 9) 400 [] [] rfl rfl (ob := [(prB (CV VPR 146 [x.ag, pkX x, .d (B true)] [] = some ⟨.d (B true), [], [], 0⟩), true)]) (by kernel_rfl) (.cons (prB_of h146) .nil)
theorem dA1_0 {R X Rb : List (List D)} {G G2 : D} {gk start ac rr at_ : Int} (x : Bx) (ro rp rq : List D) (rt0 rt1 : D) (h11 : P11 R X) (h21 : P21 R gk (shD0 x ro rp rq rt0 rt1) Rb G G2) (h22 : P22 (shD0 x ro rp rq rt0 rt1) x ac rr) (hac : ac ≠ 2) : CV VPR 4 [.d (.sl X), .d (I start)] [] = some ⟨.d (B true), [], [], 0⟩ :=
  CV_R (cD_ok R gk (shD0 x ro rp rq rt0 rt1) G G2 Rb ac rr 0 0 9) 400 [(187, true), (0, true), (0, true), (0, true)] [] rfl rfl (ob := [((!(eqF ac 2)), true), ((!(eqF ac 2)), true), ((!(eqF ac 2)), true), ((!(eqF ac 2)), true), (prB (P22 (shD0 x ro rp rq rt0 rt1) x ac rr), true), (prB (P21 R gk (shD0 x ro rp rq rt0 rt1) Rb G G2), true), (prB (P11 R X), true)]) (by kernel_rfl) (.cons (by rw [eqN hac]; rfl) <| .cons (by rw [eqN hac]; rfl) <| .cons (by rw [eqN hac]; rfl) <| .cons (by rw [eqN hac]; rfl) <| .cons (prB_of h22) <| .cons (prB_of h21) <| .cons (prB_of h11) <| .nil)
theorem dA2_0 {R X Rb : List (List D)} {G G2 : D} {gk start ac rr at_ : Int} (x : Bx) (ro rp rq : List D) (rt0 rt1 : D) (h11 : P11 R X) (h21 : P21 R gk (shD0 x ro rp rq rt0 rt1) Rb G G2) (h22 : P22 (shD0 x ro rp rq rt0 rt1) x 2 rr) (hrr : rr ≠ 0) : CV VPR 4 [.d (.sl X), .d (I start)] [] = some ⟨.d (B true), [], [], 0⟩ :=
  CV_R (cD_ok R gk (shD0 x ro rp rq rt0 rt1) G G2 Rb 2 rr 0 0 9) 400 [(191, true)] [] rfl rfl (ob := [((!(eqF rr 0)), true), (prB (P22 (shD0 x ro rp rq rt0 rt1) x 2 rr), true), (prB (P21 R gk (shD0 x ro rp rq rt0 rt1) Rb G G2), true), (prB (P11 R X), true)]) (by kernel_rfl) (.cons (by rw [eqN hrr]; rfl) <| .cons (prB_of h22) <| .cons (prB_of h21) <| .cons (prB_of h11) <| .nil)
theorem dA3_0 {R X Rb : List (List D)} {G G2 : D} {gk start ac rr at_ : Int} (x : Bx) (ro rp rq : List D) (rt0 rt1 : D) (h11 : P11 R X) (h21 : P21 R gk (shD0 x ro rp rq rt0 rt1) Rb G G2) (h22 : P22 (shD0 x ro rp rq rt0 rt1) x 2 0) (h24 : P24 start at_) {c : VCode} {Q : VExit → St → Prop}
    (hnext : ∀ st, Seg (keepK vf4K1 0) 208 (tsD at_ 1) (blD R gk (gwF (shD0 x ro rp rq rt0 rt1) G x 0 at_) Rb G2 x) [0] 1 0 st → RX VPR c st Q) : RX VPR (seqL ((flat vf4.body).take 17)) ⟨.d (.sl X) :: .d (I start) :: List.replicate 206 .any, [], [], 0, 0, 0⟩ (thn VPR c Q) :=
  RX_segK (cD_ok R gk (shD0 x ro rp rq rt0 rt1) G G2 Rb 2 0 at_ 0 9) 400 [(194, true)] [] (ob := [(prB (P24 start at_), true), (prB (P22 (shD0 x ro rp rq rt0 rt1) x 2 0), true), (prB (P21 R gk (shD0 x ro rp rq rt0 rt1) Rb G G2), true), (prB (P11 R X), true)]) (by kernel_rfl) (.cons (prB_of h24) <| .cons (prB_of h22) <| .cons (prB_of h21) <| .cons (prB_of h11) <| .nil) hnext
abbrev shD1 (x : Bx) (ro rp rq : List D) (rt0 rt1 : D) : List (List D) := [[I 2, .lit (.string ⟨#[103, 111, 108, 100]⟩), .sl [x.row]], [I 1, rt0, rt1]]
theorem d83_1 (x : Bx) (ro rp rq : List D) (rt0 rt1 : D) (G : D) (s : Int) (h146 : CV VPR 146 [x.ag, pkX x, .d (B true)] [] = some ⟨.d (B true), [], [], 0⟩) : P83 (shD1 x ro rp rq rt0 rt1) G x 0 s :=
  CV_R (cD_ok [] 0 [] G G [] 0 0 0 0 9) 400 [] [] rfl rfl (ob := [(prB (CV VPR 146 [x.ag, pkX x, .d (B true)] [] = some ⟨.d (B true), [], [], 0⟩), true)]) (by kernel_rfl) (.cons (prB_of h146) .nil)
theorem dA1_1 {R X Rb : List (List D)} {G G2 : D} {gk start ac rr at_ : Int} (x : Bx) (ro rp rq : List D) (rt0 rt1 : D) (h11 : P11 R X) (h21 : P21 R gk (shD1 x ro rp rq rt0 rt1) Rb G G2) (h22 : P22 (shD1 x ro rp rq rt0 rt1) x ac rr) (hac : ac ≠ 2) : CV VPR 4 [.d (.sl X), .d (I start)] [] = some ⟨.d (B true), [], [], 0⟩ :=
  CV_R (cD_ok R gk (shD1 x ro rp rq rt0 rt1) G G2 Rb ac rr 0 0 9) 400 [(189, true), (0, true), (0, true), (0, true)] [] rfl rfl (ob := [((!(eqF ac 2)), true), ((!(eqF ac 2)), true), ((!(eqF ac 2)), true), ((!(eqF ac 2)), true), (prB (P22 (shD1 x ro rp rq rt0 rt1) x ac rr), true), (prB (P21 R gk (shD1 x ro rp rq rt0 rt1) Rb G G2), true), (prB (P11 R X), true)]) (by kernel_rfl) (.cons (by rw [eqN hac]; rfl) <| .cons (by rw [eqN hac]; rfl) <| .cons (by rw [eqN hac]; rfl) <| .cons (by rw [eqN hac]; rfl) <| .cons (prB_of h22) <| .cons (prB_of h21) <| .cons (prB_of h11) <| .nil)
theorem dA2_1 {R X Rb : List (List D)} {G G2 : D} {gk start ac rr at_ : Int} (x : Bx) (ro rp rq : List D) (rt0 rt1 : D) (h11 : P11 R X) (h21 : P21 R gk (shD1 x ro rp rq rt0 rt1) Rb G G2) (h22 : P22 (shD1 x ro rp rq rt0 rt1) x 2 rr) (hrr : rr ≠ 0) : CV VPR 4 [.d (.sl X), .d (I start)] [] = some ⟨.d (B true), [], [], 0⟩ :=
  CV_R (cD_ok R gk (shD1 x ro rp rq rt0 rt1) G G2 Rb 2 rr 0 0 9) 400 [(193, true)] [] rfl rfl (ob := [((!(eqF rr 0)), true), (prB (P22 (shD1 x ro rp rq rt0 rt1) x 2 rr), true), (prB (P21 R gk (shD1 x ro rp rq rt0 rt1) Rb G G2), true), (prB (P11 R X), true)]) (by kernel_rfl) (.cons (by rw [eqN hrr]; rfl) <| .cons (prB_of h22) <| .cons (prB_of h21) <| .cons (prB_of h11) <| .nil)
theorem dA3_1 {R X Rb : List (List D)} {G G2 : D} {gk start ac rr at_ : Int} (x : Bx) (ro rp rq : List D) (rt0 rt1 : D) (h11 : P11 R X) (h21 : P21 R gk (shD1 x ro rp rq rt0 rt1) Rb G G2) (h22 : P22 (shD1 x ro rp rq rt0 rt1) x 2 0) (h24 : P24 start at_) {c : VCode} {Q : VExit → St → Prop}
    (hnext : ∀ st, Seg (keepK vf4K1 0) 208 (tsD at_ 1) (blD R gk (gwF (shD1 x ro rp rq rt0 rt1) G x 0 at_) Rb G2 x) [0] 1 0 st → RX VPR c st Q) : RX VPR (seqL ((flat vf4.body).take 17)) ⟨.d (.sl X) :: .d (I start) :: List.replicate 206 .any, [], [], 0, 0, 0⟩ (thn VPR c Q) :=
  RX_segK (cD_ok R gk (shD1 x ro rp rq rt0 rt1) G G2 Rb 2 0 at_ 0 9) 400 [(196, true)] [] (ob := [(prB (P24 start at_), true), (prB (P22 (shD1 x ro rp rq rt0 rt1) x 2 0), true), (prB (P21 R gk (shD1 x ro rp rq rt0 rt1) Rb G G2), true), (prB (P11 R X), true)]) (by kernel_rfl) (.cons (prB_of h24) <| .cons (prB_of h22) <| .cons (prB_of h21) <| .cons (prB_of h11) <| .nil) hnext
abbrev shD2 (x : Bx) (ro rp rq : List D) (rt0 rt1 : D) : List (List D) := [[I 2, .lit (.string ⟨#[103, 111, 108, 100]⟩), .sl [x.row, rq]]]
theorem d83_2 (x : Bx) (ro rp rq : List D) (rt0 rt1 : D) (G : D) (s : Int) (h146 : CV VPR 146 [x.ag, pkX x, .d (B true)] [] = some ⟨.d (B true), [], [], 0⟩) : P83 (shD2 x ro rp rq rt0 rt1) G x 0 s :=
  CV_R (cD_ok [] 0 [] G G [] 0 0 0 0 9) 400 [] [] rfl rfl (ob := [(prB (CV VPR 146 [x.ag, pkX x, .d (B true)] [] = some ⟨.d (B true), [], [], 0⟩), true)]) (by kernel_rfl) (.cons (prB_of h146) .nil)
theorem dA1_2 {R X Rb : List (List D)} {G G2 : D} {gk start ac rr at_ : Int} (x : Bx) (ro rp rq : List D) (rt0 rt1 : D) (h11 : P11 R X) (h21 : P21 R gk (shD2 x ro rp rq rt0 rt1) Rb G G2) (h22 : P22 (shD2 x ro rp rq rt0 rt1) x ac rr) (hac : ac ≠ 2) : CV VPR 4 [.d (.sl X), .d (I start)] [] = some ⟨.d (B true), [], [], 0⟩ :=
  CV_R (cD_ok R gk (shD2 x ro rp rq rt0 rt1) G G2 Rb ac rr 0 0 9) 400 [(187, true), (0, true), (0, true), (0, true)] [] rfl rfl (ob := [((!(eqF ac 2)), true), ((!(eqF ac 2)), true), ((!(eqF ac 2)), true), ((!(eqF ac 2)), true), (prB (P22 (shD2 x ro rp rq rt0 rt1) x ac rr), true), (prB (P21 R gk (shD2 x ro rp rq rt0 rt1) Rb G G2), true), (prB (P11 R X), true)]) (by kernel_rfl) (.cons (by rw [eqN hac]; rfl) <| .cons (by rw [eqN hac]; rfl) <| .cons (by rw [eqN hac]; rfl) <| .cons (by rw [eqN hac]; rfl) <| .cons (prB_of h22) <| .cons (prB_of h21) <| .cons (prB_of h11) <| .nil)
theorem dA2_2 {R X Rb : List (List D)} {G G2 : D} {gk start ac rr at_ : Int} (x : Bx) (ro rp rq : List D) (rt0 rt1 : D) (h11 : P11 R X) (h21 : P21 R gk (shD2 x ro rp rq rt0 rt1) Rb G G2) (h22 : P22 (shD2 x ro rp rq rt0 rt1) x 2 rr) (hrr : rr ≠ 0) : CV VPR 4 [.d (.sl X), .d (I start)] [] = some ⟨.d (B true), [], [], 0⟩ :=
  CV_R (cD_ok R gk (shD2 x ro rp rq rt0 rt1) G G2 Rb 2 rr 0 0 9) 400 [(191, true)] [] rfl rfl (ob := [((!(eqF rr 0)), true), (prB (P22 (shD2 x ro rp rq rt0 rt1) x 2 rr), true), (prB (P21 R gk (shD2 x ro rp rq rt0 rt1) Rb G G2), true), (prB (P11 R X), true)]) (by kernel_rfl) (.cons (by rw [eqN hrr]; rfl) <| .cons (prB_of h22) <| .cons (prB_of h21) <| .cons (prB_of h11) <| .nil)
theorem dA3_2 {R X Rb : List (List D)} {G G2 : D} {gk start ac rr at_ : Int} (x : Bx) (ro rp rq : List D) (rt0 rt1 : D) (h11 : P11 R X) (h21 : P21 R gk (shD2 x ro rp rq rt0 rt1) Rb G G2) (h22 : P22 (shD2 x ro rp rq rt0 rt1) x 2 0) (h24 : P24 start at_) {c : VCode} {Q : VExit → St → Prop}
    (hnext : ∀ st, Seg (keepK vf4K1 0) 208 (tsD at_ 1) (blD R gk (gwF (shD2 x ro rp rq rt0 rt1) G x 0 at_) Rb G2 x) [0] 1 0 st → RX VPR c st Q) : RX VPR (seqL ((flat vf4.body).take 17)) ⟨.d (.sl X) :: .d (I start) :: List.replicate 206 .any, [], [], 0, 0, 0⟩ (thn VPR c Q) :=
  RX_segK (cD_ok R gk (shD2 x ro rp rq rt0 rt1) G G2 Rb 2 0 at_ 0 9) 400 [(194, true)] [] (ob := [(prB (P24 start at_), true), (prB (P22 (shD2 x ro rp rq rt0 rt1) x 2 0), true), (prB (P21 R gk (shD2 x ro rp rq rt0 rt1) Rb G G2), true), (prB (P11 R X), true)]) (by kernel_rfl) (.cons (prB_of h24) <| .cons (prB_of h22) <| .cons (prB_of h21) <| .cons (prB_of h11) <| .nil) hnext
abbrev shD3 (x : Bx) (ro rp rq : List D) (rt0 rt1 : D) : List (List D) := [[I 2, .lit (.string ⟨#[103, 111, 108, 100]⟩), .sl [x.row, rq]], [I 1, rt0, rt1]]
theorem d83_3 (x : Bx) (ro rp rq : List D) (rt0 rt1 : D) (G : D) (s : Int) (h146 : CV VPR 146 [x.ag, pkX x, .d (B true)] [] = some ⟨.d (B true), [], [], 0⟩) : P83 (shD3 x ro rp rq rt0 rt1) G x 0 s :=
  CV_R (cD_ok [] 0 [] G G [] 0 0 0 0 9) 400 [] [] rfl rfl (ob := [(prB (CV VPR 146 [x.ag, pkX x, .d (B true)] [] = some ⟨.d (B true), [], [], 0⟩), true)]) (by kernel_rfl) (.cons (prB_of h146) .nil)
theorem dA1_3 {R X Rb : List (List D)} {G G2 : D} {gk start ac rr at_ : Int} (x : Bx) (ro rp rq : List D) (rt0 rt1 : D) (h11 : P11 R X) (h21 : P21 R gk (shD3 x ro rp rq rt0 rt1) Rb G G2) (h22 : P22 (shD3 x ro rp rq rt0 rt1) x ac rr) (hac : ac ≠ 2) : CV VPR 4 [.d (.sl X), .d (I start)] [] = some ⟨.d (B true), [], [], 0⟩ :=
  CV_R (cD_ok R gk (shD3 x ro rp rq rt0 rt1) G G2 Rb ac rr 0 0 9) 400 [(189, true), (0, true), (0, true), (0, true)] [] rfl rfl (ob := [((!(eqF ac 2)), true), ((!(eqF ac 2)), true), ((!(eqF ac 2)), true), ((!(eqF ac 2)), true), (prB (P22 (shD3 x ro rp rq rt0 rt1) x ac rr), true), (prB (P21 R gk (shD3 x ro rp rq rt0 rt1) Rb G G2), true), (prB (P11 R X), true)]) (by kernel_rfl) (.cons (by rw [eqN hac]; rfl) <| .cons (by rw [eqN hac]; rfl) <| .cons (by rw [eqN hac]; rfl) <| .cons (by rw [eqN hac]; rfl) <| .cons (prB_of h22) <| .cons (prB_of h21) <| .cons (prB_of h11) <| .nil)
theorem dA2_3 {R X Rb : List (List D)} {G G2 : D} {gk start ac rr at_ : Int} (x : Bx) (ro rp rq : List D) (rt0 rt1 : D) (h11 : P11 R X) (h21 : P21 R gk (shD3 x ro rp rq rt0 rt1) Rb G G2) (h22 : P22 (shD3 x ro rp rq rt0 rt1) x 2 rr) (hrr : rr ≠ 0) : CV VPR 4 [.d (.sl X), .d (I start)] [] = some ⟨.d (B true), [], [], 0⟩ :=
  CV_R (cD_ok R gk (shD3 x ro rp rq rt0 rt1) G G2 Rb 2 rr 0 0 9) 400 [(193, true)] [] rfl rfl (ob := [((!(eqF rr 0)), true), (prB (P22 (shD3 x ro rp rq rt0 rt1) x 2 rr), true), (prB (P21 R gk (shD3 x ro rp rq rt0 rt1) Rb G G2), true), (prB (P11 R X), true)]) (by kernel_rfl) (.cons (by rw [eqN hrr]; rfl) <| .cons (prB_of h22) <| .cons (prB_of h21) <| .cons (prB_of h11) <| .nil)
theorem dA3_3 {R X Rb : List (List D)} {G G2 : D} {gk start ac rr at_ : Int} (x : Bx) (ro rp rq : List D) (rt0 rt1 : D) (h11 : P11 R X) (h21 : P21 R gk (shD3 x ro rp rq rt0 rt1) Rb G G2) (h22 : P22 (shD3 x ro rp rq rt0 rt1) x 2 0) (h24 : P24 start at_) {c : VCode} {Q : VExit → St → Prop}
    (hnext : ∀ st, Seg (keepK vf4K1 0) 208 (tsD at_ 1) (blD R gk (gwF (shD3 x ro rp rq rt0 rt1) G x 0 at_) Rb G2 x) [0] 1 0 st → RX VPR c st Q) : RX VPR (seqL ((flat vf4.body).take 17)) ⟨.d (.sl X) :: .d (I start) :: List.replicate 206 .any, [], [], 0, 0, 0⟩ (thn VPR c Q) :=
  RX_segK (cD_ok R gk (shD3 x ro rp rq rt0 rt1) G G2 Rb 2 0 at_ 0 9) 400 [(196, true)] [] (ob := [(prB (P24 start at_), true), (prB (P22 (shD3 x ro rp rq rt0 rt1) x 2 0), true), (prB (P21 R gk (shD3 x ro rp rq rt0 rt1) Rb G G2), true), (prB (P11 R X), true)]) (by kernel_rfl) (.cons (prB_of h24) <| .cons (prB_of h22) <| .cons (prB_of h21) <| .cons (prB_of h11) <| .nil) hnext
abbrev shD4 (x : Bx) (ro rp rq : List D) (rt0 rt1 : D) : List (List D) := [ro, [I 2, .lit (.string ⟨#[103, 111, 108, 100]⟩), .sl [x.row]]]
theorem d83_4 (x : Bx) (ro rp rq : List D) (rt0 rt1 : D) (G : D) (s : Int) (h146 : CV VPR 146 [x.ag, pkX x, .d (B true)] [] = some ⟨.d (B true), [], [], 0⟩) : P83 (shD4 x ro rp rq rt0 rt1) G x 1 s :=
  CV_R (cD_ok [] 0 [] G G [] 0 0 0 0 9) 400 [] [] rfl rfl (ob := [(prB (CV VPR 146 [x.ag, pkX x, .d (B true)] [] = some ⟨.d (B true), [], [], 0⟩), true)]) (by kernel_rfl) (.cons (prB_of h146) .nil)
theorem dA1_4 {R X Rb : List (List D)} {G G2 : D} {gk start ac rr at_ : Int} (x : Bx) (ro rp rq : List D) (rt0 rt1 : D) (h11 : P11 R X) (h21 : P21 R gk (shD4 x ro rp rq rt0 rt1) Rb G G2) (h22 : P22 (shD4 x ro rp rq rt0 rt1) x ac rr) (hac : ac ≠ 2) : CV VPR 4 [.d (.sl X), .d (I start)] [] = some ⟨.d (B true), [], [], 0⟩ :=
  CV_R (cD_ok R gk (shD4 x ro rp rq rt0 rt1) G G2 Rb ac rr 0 0 9) 400 [(187, true), (0, true), (0, true), (0, true)] [] rfl rfl (ob := [((!(eqF ac 2)), true), ((!(eqF ac 2)), true), ((!(eqF ac 2)), true), ((!(eqF ac 2)), true), (prB (P22 (shD4 x ro rp rq rt0 rt1) x ac rr), true), (prB (P21 R gk (shD4 x ro rp rq rt0 rt1) Rb G G2), true), (prB (P11 R X), true)]) (by kernel_rfl) (.cons (by rw [eqN hac]; rfl) <| .cons (by rw [eqN hac]; rfl) <| .cons (by rw [eqN hac]; rfl) <| .cons (by rw [eqN hac]; rfl) <| .cons (prB_of h22) <| .cons (prB_of h21) <| .cons (prB_of h11) <| .nil)
theorem dA2_4 {R X Rb : List (List D)} {G G2 : D} {gk start ac rr at_ : Int} (x : Bx) (ro rp rq : List D) (rt0 rt1 : D) (h11 : P11 R X) (h21 : P21 R gk (shD4 x ro rp rq rt0 rt1) Rb G G2) (h22 : P22 (shD4 x ro rp rq rt0 rt1) x 2 rr) (hrr : rr ≠ 1) : CV VPR 4 [.d (.sl X), .d (I start)] [] = some ⟨.d (B true), [], [], 0⟩ :=
  CV_R (cD_ok R gk (shD4 x ro rp rq rt0 rt1) G G2 Rb 2 rr 0 0 9) 400 [(191, true)] [] rfl rfl (ob := [((!(eqF rr 1)), true), (prB (P22 (shD4 x ro rp rq rt0 rt1) x 2 rr), true), (prB (P21 R gk (shD4 x ro rp rq rt0 rt1) Rb G G2), true), (prB (P11 R X), true)]) (by kernel_rfl) (.cons (by rw [eqN hrr]; rfl) <| .cons (prB_of h22) <| .cons (prB_of h21) <| .cons (prB_of h11) <| .nil)
theorem dA3_4 {R X Rb : List (List D)} {G G2 : D} {gk start ac rr at_ : Int} (x : Bx) (ro rp rq : List D) (rt0 rt1 : D) (h11 : P11 R X) (h21 : P21 R gk (shD4 x ro rp rq rt0 rt1) Rb G G2) (h22 : P22 (shD4 x ro rp rq rt0 rt1) x 2 1) (h24 : P24 start at_) {c : VCode} {Q : VExit → St → Prop}
    (hnext : ∀ st, Seg (keepK vf4K1 0) 208 (tsD at_ 1) (blD R gk (gwF (shD4 x ro rp rq rt0 rt1) G x 1 at_) Rb G2 x) [0] 1 0 st → RX VPR c st Q) : RX VPR (seqL ((flat vf4.body).take 17)) ⟨.d (.sl X) :: .d (I start) :: List.replicate 206 .any, [], [], 0, 0, 0⟩ (thn VPR c Q) :=
  RX_segK (cD_ok R gk (shD4 x ro rp rq rt0 rt1) G G2 Rb 2 1 at_ 0 9) 400 [(194, true)] [] (ob := [(prB (P24 start at_), true), (prB (P22 (shD4 x ro rp rq rt0 rt1) x 2 1), true), (prB (P21 R gk (shD4 x ro rp rq rt0 rt1) Rb G G2), true), (prB (P11 R X), true)]) (by kernel_rfl) (.cons (prB_of h24) <| .cons (prB_of h22) <| .cons (prB_of h21) <| .cons (prB_of h11) <| .nil) hnext
abbrev shD5 (x : Bx) (ro rp rq : List D) (rt0 rt1 : D) : List (List D) := [ro, [I 2, .lit (.string ⟨#[103, 111, 108, 100]⟩), .sl [x.row]], [I 1, rt0, rt1]]
theorem d83_5 (x : Bx) (ro rp rq : List D) (rt0 rt1 : D) (G : D) (s : Int) (h146 : CV VPR 146 [x.ag, pkX x, .d (B true)] [] = some ⟨.d (B true), [], [], 0⟩) : P83 (shD5 x ro rp rq rt0 rt1) G x 1 s :=
  CV_R (cD_ok [] 0 [] G G [] 0 0 0 0 9) 400 [] [] rfl rfl (ob := [(prB (CV VPR 146 [x.ag, pkX x, .d (B true)] [] = some ⟨.d (B true), [], [], 0⟩), true)]) (by kernel_rfl) (.cons (prB_of h146) .nil)
theorem dA1_5 {R X Rb : List (List D)} {G G2 : D} {gk start ac rr at_ : Int} (x : Bx) (ro rp rq : List D) (rt0 rt1 : D) (h11 : P11 R X) (h21 : P21 R gk (shD5 x ro rp rq rt0 rt1) Rb G G2) (h22 : P22 (shD5 x ro rp rq rt0 rt1) x ac rr) (hac : ac ≠ 2) : CV VPR 4 [.d (.sl X), .d (I start)] [] = some ⟨.d (B true), [], [], 0⟩ :=
  CV_R (cD_ok R gk (shD5 x ro rp rq rt0 rt1) G G2 Rb ac rr 0 0 9) 400 [(189, true), (0, true), (0, true), (0, true)] [] rfl rfl (ob := [((!(eqF ac 2)), true), ((!(eqF ac 2)), true), ((!(eqF ac 2)), true), ((!(eqF ac 2)), true), (prB (P22 (shD5 x ro rp rq rt0 rt1) x ac rr), true), (prB (P21 R gk (shD5 x ro rp rq rt0 rt1) Rb G G2), true), (prB (P11 R X), true)]) (by kernel_rfl) (.cons (by rw [eqN hac]; rfl) <| .cons (by rw [eqN hac]; rfl) <| .cons (by rw [eqN hac]; rfl) <| .cons (by rw [eqN hac]; rfl) <| .cons (prB_of h22) <| .cons (prB_of h21) <| .cons (prB_of h11) <| .nil)
theorem dA2_5 {R X Rb : List (List D)} {G G2 : D} {gk start ac rr at_ : Int} (x : Bx) (ro rp rq : List D) (rt0 rt1 : D) (h11 : P11 R X) (h21 : P21 R gk (shD5 x ro rp rq rt0 rt1) Rb G G2) (h22 : P22 (shD5 x ro rp rq rt0 rt1) x 2 rr) (hrr : rr ≠ 1) : CV VPR 4 [.d (.sl X), .d (I start)] [] = some ⟨.d (B true), [], [], 0⟩ :=
  CV_R (cD_ok R gk (shD5 x ro rp rq rt0 rt1) G G2 Rb 2 rr 0 0 9) 400 [(193, true)] [] rfl rfl (ob := [((!(eqF rr 1)), true), (prB (P22 (shD5 x ro rp rq rt0 rt1) x 2 rr), true), (prB (P21 R gk (shD5 x ro rp rq rt0 rt1) Rb G G2), true), (prB (P11 R X), true)]) (by kernel_rfl) (.cons (by rw [eqN hrr]; rfl) <| .cons (prB_of h22) <| .cons (prB_of h21) <| .cons (prB_of h11) <| .nil)
theorem dA3_5 {R X Rb : List (List D)} {G G2 : D} {gk start ac rr at_ : Int} (x : Bx) (ro rp rq : List D) (rt0 rt1 : D) (h11 : P11 R X) (h21 : P21 R gk (shD5 x ro rp rq rt0 rt1) Rb G G2) (h22 : P22 (shD5 x ro rp rq rt0 rt1) x 2 1) (h24 : P24 start at_) {c : VCode} {Q : VExit → St → Prop}
    (hnext : ∀ st, Seg (keepK vf4K1 0) 208 (tsD at_ 1) (blD R gk (gwF (shD5 x ro rp rq rt0 rt1) G x 1 at_) Rb G2 x) [0] 1 0 st → RX VPR c st Q) : RX VPR (seqL ((flat vf4.body).take 17)) ⟨.d (.sl X) :: .d (I start) :: List.replicate 206 .any, [], [], 0, 0, 0⟩ (thn VPR c Q) :=
  RX_segK (cD_ok R gk (shD5 x ro rp rq rt0 rt1) G G2 Rb 2 1 at_ 0 9) 400 [(196, true)] [] (ob := [(prB (P24 start at_), true), (prB (P22 (shD5 x ro rp rq rt0 rt1) x 2 1), true), (prB (P21 R gk (shD5 x ro rp rq rt0 rt1) Rb G G2), true), (prB (P11 R X), true)]) (by kernel_rfl) (.cons (prB_of h24) <| .cons (prB_of h22) <| .cons (prB_of h21) <| .cons (prB_of h11) <| .nil) hnext
abbrev shD6 (x : Bx) (ro rp rq : List D) (rt0 rt1 : D) : List (List D) := [ro, [I 2, .lit (.string ⟨#[103, 111, 108, 100]⟩), .sl [x.row, rq]]]
theorem d83_6 (x : Bx) (ro rp rq : List D) (rt0 rt1 : D) (G : D) (s : Int) (h146 : CV VPR 146 [x.ag, pkX x, .d (B true)] [] = some ⟨.d (B true), [], [], 0⟩) : P83 (shD6 x ro rp rq rt0 rt1) G x 1 s :=
  CV_R (cD_ok [] 0 [] G G [] 0 0 0 0 9) 400 [] [] rfl rfl (ob := [(prB (CV VPR 146 [x.ag, pkX x, .d (B true)] [] = some ⟨.d (B true), [], [], 0⟩), true)]) (by kernel_rfl) (.cons (prB_of h146) .nil)
theorem dA1_6 {R X Rb : List (List D)} {G G2 : D} {gk start ac rr at_ : Int} (x : Bx) (ro rp rq : List D) (rt0 rt1 : D) (h11 : P11 R X) (h21 : P21 R gk (shD6 x ro rp rq rt0 rt1) Rb G G2) (h22 : P22 (shD6 x ro rp rq rt0 rt1) x ac rr) (hac : ac ≠ 2) : CV VPR 4 [.d (.sl X), .d (I start)] [] = some ⟨.d (B true), [], [], 0⟩ :=
  CV_R (cD_ok R gk (shD6 x ro rp rq rt0 rt1) G G2 Rb ac rr 0 0 9) 400 [(187, true), (0, true), (0, true), (0, true)] [] rfl rfl (ob := [((!(eqF ac 2)), true), ((!(eqF ac 2)), true), ((!(eqF ac 2)), true), ((!(eqF ac 2)), true), (prB (P22 (shD6 x ro rp rq rt0 rt1) x ac rr), true), (prB (P21 R gk (shD6 x ro rp rq rt0 rt1) Rb G G2), true), (prB (P11 R X), true)]) (by kernel_rfl) (.cons (by rw [eqN hac]; rfl) <| .cons (by rw [eqN hac]; rfl) <| .cons (by rw [eqN hac]; rfl) <| .cons (by rw [eqN hac]; rfl) <| .cons (prB_of h22) <| .cons (prB_of h21) <| .cons (prB_of h11) <| .nil)
theorem dA2_6 {R X Rb : List (List D)} {G G2 : D} {gk start ac rr at_ : Int} (x : Bx) (ro rp rq : List D) (rt0 rt1 : D) (h11 : P11 R X) (h21 : P21 R gk (shD6 x ro rp rq rt0 rt1) Rb G G2) (h22 : P22 (shD6 x ro rp rq rt0 rt1) x 2 rr) (hrr : rr ≠ 1) : CV VPR 4 [.d (.sl X), .d (I start)] [] = some ⟨.d (B true), [], [], 0⟩ :=
  CV_R (cD_ok R gk (shD6 x ro rp rq rt0 rt1) G G2 Rb 2 rr 0 0 9) 400 [(191, true)] [] rfl rfl (ob := [((!(eqF rr 1)), true), (prB (P22 (shD6 x ro rp rq rt0 rt1) x 2 rr), true), (prB (P21 R gk (shD6 x ro rp rq rt0 rt1) Rb G G2), true), (prB (P11 R X), true)]) (by kernel_rfl) (.cons (by rw [eqN hrr]; rfl) <| .cons (prB_of h22) <| .cons (prB_of h21) <| .cons (prB_of h11) <| .nil)
theorem dA3_6 {R X Rb : List (List D)} {G G2 : D} {gk start ac rr at_ : Int} (x : Bx) (ro rp rq : List D) (rt0 rt1 : D) (h11 : P11 R X) (h21 : P21 R gk (shD6 x ro rp rq rt0 rt1) Rb G G2) (h22 : P22 (shD6 x ro rp rq rt0 rt1) x 2 1) (h24 : P24 start at_) {c : VCode} {Q : VExit → St → Prop}
    (hnext : ∀ st, Seg (keepK vf4K1 0) 208 (tsD at_ 1) (blD R gk (gwF (shD6 x ro rp rq rt0 rt1) G x 1 at_) Rb G2 x) [0] 1 0 st → RX VPR c st Q) : RX VPR (seqL ((flat vf4.body).take 17)) ⟨.d (.sl X) :: .d (I start) :: List.replicate 206 .any, [], [], 0, 0, 0⟩ (thn VPR c Q) :=
  RX_segK (cD_ok R gk (shD6 x ro rp rq rt0 rt1) G G2 Rb 2 1 at_ 0 9) 400 [(194, true)] [] (ob := [(prB (P24 start at_), true), (prB (P22 (shD6 x ro rp rq rt0 rt1) x 2 1), true), (prB (P21 R gk (shD6 x ro rp rq rt0 rt1) Rb G G2), true), (prB (P11 R X), true)]) (by kernel_rfl) (.cons (prB_of h24) <| .cons (prB_of h22) <| .cons (prB_of h21) <| .cons (prB_of h11) <| .nil) hnext
abbrev shD7 (x : Bx) (ro rp rq : List D) (rt0 rt1 : D) : List (List D) := [ro, [I 2, .lit (.string ⟨#[103, 111, 108, 100]⟩), .sl [x.row, rq]], [I 1, rt0, rt1]]
theorem d83_7 (x : Bx) (ro rp rq : List D) (rt0 rt1 : D) (G : D) (s : Int) (h146 : CV VPR 146 [x.ag, pkX x, .d (B true)] [] = some ⟨.d (B true), [], [], 0⟩) : P83 (shD7 x ro rp rq rt0 rt1) G x 1 s :=
  CV_R (cD_ok [] 0 [] G G [] 0 0 0 0 9) 400 [] [] rfl rfl (ob := [(prB (CV VPR 146 [x.ag, pkX x, .d (B true)] [] = some ⟨.d (B true), [], [], 0⟩), true)]) (by kernel_rfl) (.cons (prB_of h146) .nil)
theorem dA1_7 {R X Rb : List (List D)} {G G2 : D} {gk start ac rr at_ : Int} (x : Bx) (ro rp rq : List D) (rt0 rt1 : D) (h11 : P11 R X) (h21 : P21 R gk (shD7 x ro rp rq rt0 rt1) Rb G G2) (h22 : P22 (shD7 x ro rp rq rt0 rt1) x ac rr) (hac : ac ≠ 2) : CV VPR 4 [.d (.sl X), .d (I start)] [] = some ⟨.d (B true), [], [], 0⟩ :=
  CV_R (cD_ok R gk (shD7 x ro rp rq rt0 rt1) G G2 Rb ac rr 0 0 9) 400 [(189, true), (0, true), (0, true), (0, true)] [] rfl rfl (ob := [((!(eqF ac 2)), true), ((!(eqF ac 2)), true), ((!(eqF ac 2)), true), ((!(eqF ac 2)), true), (prB (P22 (shD7 x ro rp rq rt0 rt1) x ac rr), true), (prB (P21 R gk (shD7 x ro rp rq rt0 rt1) Rb G G2), true), (prB (P11 R X), true)]) (by kernel_rfl) (.cons (by rw [eqN hac]; rfl) <| .cons (by rw [eqN hac]; rfl) <| .cons (by rw [eqN hac]; rfl) <| .cons (by rw [eqN hac]; rfl) <| .cons (prB_of h22) <| .cons (prB_of h21) <| .cons (prB_of h11) <| .nil)
theorem dA2_7 {R X Rb : List (List D)} {G G2 : D} {gk start ac rr at_ : Int} (x : Bx) (ro rp rq : List D) (rt0 rt1 : D) (h11 : P11 R X) (h21 : P21 R gk (shD7 x ro rp rq rt0 rt1) Rb G G2) (h22 : P22 (shD7 x ro rp rq rt0 rt1) x 2 rr) (hrr : rr ≠ 1) : CV VPR 4 [.d (.sl X), .d (I start)] [] = some ⟨.d (B true), [], [], 0⟩ :=
  CV_R (cD_ok R gk (shD7 x ro rp rq rt0 rt1) G G2 Rb 2 rr 0 0 9) 400 [(193, true)] [] rfl rfl (ob := [((!(eqF rr 1)), true), (prB (P22 (shD7 x ro rp rq rt0 rt1) x 2 rr), true), (prB (P21 R gk (shD7 x ro rp rq rt0 rt1) Rb G G2), true), (prB (P11 R X), true)]) (by kernel_rfl) (.cons (by rw [eqN hrr]; rfl) <| .cons (prB_of h22) <| .cons (prB_of h21) <| .cons (prB_of h11) <| .nil)
theorem dA3_7 {R X Rb : List (List D)} {G G2 : D} {gk start ac rr at_ : Int} (x : Bx) (ro rp rq : List D) (rt0 rt1 : D) (h11 : P11 R X) (h21 : P21 R gk (shD7 x ro rp rq rt0 rt1) Rb G G2) (h22 : P22 (shD7 x ro rp rq rt0 rt1) x 2 1) (h24 : P24 start at_) {c : VCode} {Q : VExit → St → Prop}
    (hnext : ∀ st, Seg (keepK vf4K1 0) 208 (tsD at_ 1) (blD R gk (gwF (shD7 x ro rp rq rt0 rt1) G x 1 at_) Rb G2 x) [0] 1 0 st → RX VPR c st Q) : RX VPR (seqL ((flat vf4.body).take 17)) ⟨.d (.sl X) :: .d (I start) :: List.replicate 206 .any, [], [], 0, 0, 0⟩ (thn VPR c Q) :=
  RX_segK (cD_ok R gk (shD7 x ro rp rq rt0 rt1) G G2 Rb 2 1 at_ 0 9) 400 [(196, true)] [] (ob := [(prB (P24 start at_), true), (prB (P22 (shD7 x ro rp rq rt0 rt1) x 2 1), true), (prB (P21 R gk (shD7 x ro rp rq rt0 rt1) Rb G G2), true), (prB (P11 R X), true)]) (by kernel_rfl) (.cons (prB_of h24) <| .cons (prB_of h22) <| .cons (prB_of h21) <| .cons (prB_of h11) <| .nil) hnext
abbrev shD8 (x : Bx) (ro rp rq : List D) (rt0 rt1 : D) : List (List D) := [ro, rp, [I 2, .lit (.string ⟨#[103, 111, 108, 100]⟩), .sl [x.row]]]
theorem d83_8 (x : Bx) (ro rp rq : List D) (rt0 rt1 : D) (G : D) (s : Int) (h146 : CV VPR 146 [x.ag, pkX x, .d (B true)] [] = some ⟨.d (B true), [], [], 0⟩) : P83 (shD8 x ro rp rq rt0 rt1) G x 2 s :=
  CV_R (cD_ok [] 0 [] G G [] 0 0 0 0 9) 400 [] [] rfl rfl (ob := [(prB (CV VPR 146 [x.ag, pkX x, .d (B true)] [] = some ⟨.d (B true), [], [], 0⟩), true)]) (by kernel_rfl) (.cons (prB_of h146) .nil)
theorem dA1_8 {R X Rb : List (List D)} {G G2 : D} {gk start ac rr at_ : Int} (x : Bx) (ro rp rq : List D) (rt0 rt1 : D) (h11 : P11 R X) (h21 : P21 R gk (shD8 x ro rp rq rt0 rt1) Rb G G2) (h22 : P22 (shD8 x ro rp rq rt0 rt1) x ac rr) (hac : ac ≠ 2) : CV VPR 4 [.d (.sl X), .d (I start)] [] = some ⟨.d (B true), [], [], 0⟩ :=
  CV_R (cD_ok R gk (shD8 x ro rp rq rt0 rt1) G G2 Rb ac rr 0 0 9) 400 [(187, true), (0, true), (0, true), (0, true)] [] rfl rfl (ob := [((!(eqF ac 2)), true), ((!(eqF ac 2)), true), ((!(eqF ac 2)), true), ((!(eqF ac 2)), true), (prB (P22 (shD8 x ro rp rq rt0 rt1) x ac rr), true), (prB (P21 R gk (shD8 x ro rp rq rt0 rt1) Rb G G2), true), (prB (P11 R X), true)]) (by kernel_rfl) (.cons (by rw [eqN hac]; rfl) <| .cons (by rw [eqN hac]; rfl) <| .cons (by rw [eqN hac]; rfl) <| .cons (by rw [eqN hac]; rfl) <| .cons (prB_of h22) <| .cons (prB_of h21) <| .cons (prB_of h11) <| .nil)
theorem dA2_8 {R X Rb : List (List D)} {G G2 : D} {gk start ac rr at_ : Int} (x : Bx) (ro rp rq : List D) (rt0 rt1 : D) (h11 : P11 R X) (h21 : P21 R gk (shD8 x ro rp rq rt0 rt1) Rb G G2) (h22 : P22 (shD8 x ro rp rq rt0 rt1) x 2 rr) (hrr : rr ≠ 2) : CV VPR 4 [.d (.sl X), .d (I start)] [] = some ⟨.d (B true), [], [], 0⟩ :=
  CV_R (cD_ok R gk (shD8 x ro rp rq rt0 rt1) G G2 Rb 2 rr 0 0 9) 400 [(191, true)] [] rfl rfl (ob := [((!(eqF rr 2)), true), (prB (P22 (shD8 x ro rp rq rt0 rt1) x 2 rr), true), (prB (P21 R gk (shD8 x ro rp rq rt0 rt1) Rb G G2), true), (prB (P11 R X), true)]) (by kernel_rfl) (.cons (by rw [eqN hrr]; rfl) <| .cons (prB_of h22) <| .cons (prB_of h21) <| .cons (prB_of h11) <| .nil)
theorem dA3_8 {R X Rb : List (List D)} {G G2 : D} {gk start ac rr at_ : Int} (x : Bx) (ro rp rq : List D) (rt0 rt1 : D) (h11 : P11 R X) (h21 : P21 R gk (shD8 x ro rp rq rt0 rt1) Rb G G2) (h22 : P22 (shD8 x ro rp rq rt0 rt1) x 2 2) (h24 : P24 start at_) {c : VCode} {Q : VExit → St → Prop}
    (hnext : ∀ st, Seg (keepK vf4K1 0) 208 (tsD at_ 1) (blD R gk (gwF (shD8 x ro rp rq rt0 rt1) G x 2 at_) Rb G2 x) [0] 1 0 st → RX VPR c st Q) : RX VPR (seqL ((flat vf4.body).take 17)) ⟨.d (.sl X) :: .d (I start) :: List.replicate 206 .any, [], [], 0, 0, 0⟩ (thn VPR c Q) :=
  RX_segK (cD_ok R gk (shD8 x ro rp rq rt0 rt1) G G2 Rb 2 2 at_ 0 9) 400 [(194, true)] [] (ob := [(prB (P24 start at_), true), (prB (P22 (shD8 x ro rp rq rt0 rt1) x 2 2), true), (prB (P21 R gk (shD8 x ro rp rq rt0 rt1) Rb G G2), true), (prB (P11 R X), true)]) (by kernel_rfl) (.cons (prB_of h24) <| .cons (prB_of h22) <| .cons (prB_of h21) <| .cons (prB_of h11) <| .nil) hnext
abbrev shD9 (x : Bx) (ro rp rq : List D) (rt0 rt1 : D) : List (List D) := [ro, rp, [I 2, .lit (.string ⟨#[103, 111, 108, 100]⟩), .sl [x.row]], [I 1, rt0, rt1]]
theorem d83_9 (x : Bx) (ro rp rq : List D) (rt0 rt1 : D) (G : D) (s : Int) (h146 : CV VPR 146 [x.ag, pkX x, .d (B true)] [] = some ⟨.d (B true), [], [], 0⟩) : P83 (shD9 x ro rp rq rt0 rt1) G x 2 s :=
  CV_R (cD_ok [] 0 [] G G [] 0 0 0 0 9) 400 [] [] rfl rfl (ob := [(prB (CV VPR 146 [x.ag, pkX x, .d (B true)] [] = some ⟨.d (B true), [], [], 0⟩), true)]) (by kernel_rfl) (.cons (prB_of h146) .nil)
theorem dA1_9 {R X Rb : List (List D)} {G G2 : D} {gk start ac rr at_ : Int} (x : Bx) (ro rp rq : List D) (rt0 rt1 : D) (h11 : P11 R X) (h21 : P21 R gk (shD9 x ro rp rq rt0 rt1) Rb G G2) (h22 : P22 (shD9 x ro rp rq rt0 rt1) x ac rr) (hac : ac ≠ 2) : CV VPR 4 [.d (.sl X), .d (I start)] [] = some ⟨.d (B true), [], [], 0⟩ :=
  CV_R (cD_ok R gk (shD9 x ro rp rq rt0 rt1) G G2 Rb ac rr 0 0 9) 400 [(189, true), (0, true), (0, true), (0, true)] [] rfl rfl (ob := [((!(eqF ac 2)), true), ((!(eqF ac 2)), true), ((!(eqF ac 2)), true), ((!(eqF ac 2)), true), (prB (P22 (shD9 x ro rp rq rt0 rt1) x ac rr), true), (prB (P21 R gk (shD9 x ro rp rq rt0 rt1) Rb G G2), true), (prB (P11 R X), true)]) (by kernel_rfl) (.cons (by rw [eqN hac]; rfl) <| .cons (by rw [eqN hac]; rfl) <| .cons (by rw [eqN hac]; rfl) <| .cons (by rw [eqN hac]; rfl) <| .cons (prB_of h22) <| .cons (prB_of h21) <| .cons (prB_of h11) <| .nil)
theorem dA2_9 {R X Rb : List (List D)} {G G2 : D} {gk start ac rr at_ : Int} (x : Bx) (ro rp rq : List D) (rt0 rt1 : D) (h11 : P11 R X) (h21 : P21 R gk (shD9 x ro rp rq rt0 rt1) Rb G G2) (h22 : P22 (shD9 x ro rp rq rt0 rt1) x 2 rr) (hrr : rr ≠ 2) : CV VPR 4 [.d (.sl X), .d (I start)] [] = some ⟨.d (B true), [], [], 0⟩ :=
  CV_R (cD_ok R gk (shD9 x ro rp rq rt0 rt1) G G2 Rb 2 rr 0 0 9) 400 [(193, true)] [] rfl rfl (ob := [((!(eqF rr 2)), true), (prB (P22 (shD9 x ro rp rq rt0 rt1) x 2 rr), true), (prB (P21 R gk (shD9 x ro rp rq rt0 rt1) Rb G G2), true), (prB (P11 R X), true)]) (by kernel_rfl) (.cons (by rw [eqN hrr]; rfl) <| .cons (prB_of h22) <| .cons (prB_of h21) <| .cons (prB_of h11) <| .nil)
theorem dA3_9 {R X Rb : List (List D)} {G G2 : D} {gk start ac rr at_ : Int} (x : Bx) (ro rp rq : List D) (rt0 rt1 : D) (h11 : P11 R X) (h21 : P21 R gk (shD9 x ro rp rq rt0 rt1) Rb G G2) (h22 : P22 (shD9 x ro rp rq rt0 rt1) x 2 2) (h24 : P24 start at_) {c : VCode} {Q : VExit → St → Prop}
    (hnext : ∀ st, Seg (keepK vf4K1 0) 208 (tsD at_ 1) (blD R gk (gwF (shD9 x ro rp rq rt0 rt1) G x 2 at_) Rb G2 x) [0] 1 0 st → RX VPR c st Q) : RX VPR (seqL ((flat vf4.body).take 17)) ⟨.d (.sl X) :: .d (I start) :: List.replicate 206 .any, [], [], 0, 0, 0⟩ (thn VPR c Q) :=
  RX_segK (cD_ok R gk (shD9 x ro rp rq rt0 rt1) G G2 Rb 2 2 at_ 0 9) 400 [(196, true)] [] (ob := [(prB (P24 start at_), true), (prB (P22 (shD9 x ro rp rq rt0 rt1) x 2 2), true), (prB (P21 R gk (shD9 x ro rp rq rt0 rt1) Rb G G2), true), (prB (P11 R X), true)]) (by kernel_rfl) (.cons (prB_of h24) <| .cons (prB_of h22) <| .cons (prB_of h21) <| .cons (prB_of h11) <| .nil) hnext
abbrev shD10 (x : Bx) (ro rp rq : List D) (rt0 rt1 : D) : List (List D) := [ro, rp, [I 2, .lit (.string ⟨#[103, 111, 108, 100]⟩), .sl [x.row, rq]]]
theorem d83_10 (x : Bx) (ro rp rq : List D) (rt0 rt1 : D) (G : D) (s : Int) (h146 : CV VPR 146 [x.ag, pkX x, .d (B true)] [] = some ⟨.d (B true), [], [], 0⟩) : P83 (shD10 x ro rp rq rt0 rt1) G x 2 s :=
  CV_R (cD_ok [] 0 [] G G [] 0 0 0 0 9) 400 [] [] rfl rfl (ob := [(prB (CV VPR 146 [x.ag, pkX x, .d (B true)] [] = some ⟨.d (B true), [], [], 0⟩), true)]) (by kernel_rfl) (.cons (prB_of h146) .nil)
theorem dA1_10 {R X Rb : List (List D)} {G G2 : D} {gk start ac rr at_ : Int} (x : Bx) (ro rp rq : List D) (rt0 rt1 : D) (h11 : P11 R X) (h21 : P21 R gk (shD10 x ro rp rq rt0 rt1) Rb G G2) (h22 : P22 (shD10 x ro rp rq rt0 rt1) x ac rr) (hac : ac ≠ 2) : CV VPR 4 [.d (.sl X), .d (I start)] [] = some ⟨.d (B true), [], [], 0⟩ :=
  CV_R (cD_ok R gk (shD10 x ro rp rq rt0 rt1) G G2 Rb ac rr 0 0 9) 400 [(187, true), (0, true), (0, true), (0, true)] [] rfl rfl (ob := [((!(eqF ac 2)), true), ((!(eqF ac 2)), true), ((!(eqF ac 2)), true), ((!(eqF ac 2)), true), (prB (P22 (shD10 x ro rp rq rt0 rt1) x ac rr), true), (prB (P21 R gk (shD10 x ro rp rq rt0 rt1) Rb G G2), true), (prB (P11 R X), true)]) (by kernel_rfl) (.cons (by rw [eqN hac]; rfl) <| .cons (by rw [eqN hac]; rfl) <| .cons (by rw [eqN hac]; rfl) <| .cons (by rw [eqN hac]; rfl) <| .cons (prB_of h22) <| .cons (prB_of h21) <| .cons (prB_of h11) <| .nil)
theorem dA2_10 {R X Rb : List (List D)} {G G2 : D} {gk start ac rr at_ : Int} (x : Bx) (ro rp rq : List D) (rt0 rt1 : D) (h11 : P11 R X) (h21 : P21 R gk (shD10 x ro rp rq rt0 rt1) Rb G G2) (h22 : P22 (shD10 x ro rp rq rt0 rt1) x 2 rr) (hrr : rr ≠ 2) : CV VPR 4 [.d (.sl X), .d (I start)] [] = some ⟨.d (B true), [], [], 0⟩ :=
  CV_R (cD_ok R gk (shD10 x ro rp rq rt0 rt1) G G2 Rb 2 rr 0 0 9) 400 [(191, true)] [] rfl rfl (ob := [((!(eqF rr 2)), true), (prB (P22 (shD10 x ro rp rq rt0 rt1) x 2 rr), true), (prB (P21 R gk (shD10 x ro rp rq rt0 rt1) Rb G G2), true), (prB (P11 R X), true)]) (by kernel_rfl) (.cons (by rw [eqN hrr]; rfl) <| .cons (prB_of h22) <| .cons (prB_of h21) <| .cons (prB_of h11) <| .nil)
theorem dA3_10 {R X Rb : List (List D)} {G G2 : D} {gk start ac rr at_ : Int} (x : Bx) (ro rp rq : List D) (rt0 rt1 : D) (h11 : P11 R X) (h21 : P21 R gk (shD10 x ro rp rq rt0 rt1) Rb G G2) (h22 : P22 (shD10 x ro rp rq rt0 rt1) x 2 2) (h24 : P24 start at_) {c : VCode} {Q : VExit → St → Prop}
    (hnext : ∀ st, Seg (keepK vf4K1 0) 208 (tsD at_ 1) (blD R gk (gwF (shD10 x ro rp rq rt0 rt1) G x 2 at_) Rb G2 x) [0] 1 0 st → RX VPR c st Q) : RX VPR (seqL ((flat vf4.body).take 17)) ⟨.d (.sl X) :: .d (I start) :: List.replicate 206 .any, [], [], 0, 0, 0⟩ (thn VPR c Q) :=
  RX_segK (cD_ok R gk (shD10 x ro rp rq rt0 rt1) G G2 Rb 2 2 at_ 0 9) 400 [(194, true)] [] (ob := [(prB (P24 start at_), true), (prB (P22 (shD10 x ro rp rq rt0 rt1) x 2 2), true), (prB (P21 R gk (shD10 x ro rp rq rt0 rt1) Rb G G2), true), (prB (P11 R X), true)]) (by kernel_rfl) (.cons (prB_of h24) <| .cons (prB_of h22) <| .cons (prB_of h21) <| .cons (prB_of h11) <| .nil) hnext
abbrev shD11 (x : Bx) (ro rp rq : List D) (rt0 rt1 : D) : List (List D) := [ro, rp, [I 2, .lit (.string ⟨#[103, 111, 108, 100]⟩), .sl [x.row, rq]], [I 1, rt0, rt1]]
theorem d83_11 (x : Bx) (ro rp rq : List D) (rt0 rt1 : D) (G : D) (s : Int) (h146 : CV VPR 146 [x.ag, pkX x, .d (B true)] [] = some ⟨.d (B true), [], [], 0⟩) : P83 (shD11 x ro rp rq rt0 rt1) G x 2 s :=
  CV_R (cD_ok [] 0 [] G G [] 0 0 0 0 9) 400 [] [] rfl rfl (ob := [(prB (CV VPR 146 [x.ag, pkX x, .d (B true)] [] = some ⟨.d (B true), [], [], 0⟩), true)]) (by kernel_rfl) (.cons (prB_of h146) .nil)
theorem dA1_11 {R X Rb : List (List D)} {G G2 : D} {gk start ac rr at_ : Int} (x : Bx) (ro rp rq : List D) (rt0 rt1 : D) (h11 : P11 R X) (h21 : P21 R gk (shD11 x ro rp rq rt0 rt1) Rb G G2) (h22 : P22 (shD11 x ro rp rq rt0 rt1) x ac rr) (hac : ac ≠ 2) : CV VPR 4 [.d (.sl X), .d (I start)] [] = some ⟨.d (B true), [], [], 0⟩ :=
  CV_R (cD_ok R gk (shD11 x ro rp rq rt0 rt1) G G2 Rb ac rr 0 0 9) 400 [(189, true), (0, true), (0, true), (0, true)] [] rfl rfl (ob := [((!(eqF ac 2)), true), ((!(eqF ac 2)), true), ((!(eqF ac 2)), true), ((!(eqF ac 2)), true), (prB (P22 (shD11 x ro rp rq rt0 rt1) x ac rr), true), (prB (P21 R gk (shD11 x ro rp rq rt0 rt1) Rb G G2), true), (prB (P11 R X), true)]) (by kernel_rfl) (.cons (by rw [eqN hac]; rfl) <| .cons (by rw [eqN hac]; rfl) <| .cons (by rw [eqN hac]; rfl) <| .cons (by rw [eqN hac]; rfl) <| .cons (prB_of h22) <| .cons (prB_of h21) <| .cons (prB_of h11) <| .nil)
theorem dA2_11 {R X Rb : List (List D)} {G G2 : D} {gk start ac rr at_ : Int} (x : Bx) (ro rp rq : List D) (rt0 rt1 : D) (h11 : P11 R X) (h21 : P21 R gk (shD11 x ro rp rq rt0 rt1) Rb G G2) (h22 : P22 (shD11 x ro rp rq rt0 rt1) x 2 rr) (hrr : rr ≠ 2) : CV VPR 4 [.d (.sl X), .d (I start)] [] = some ⟨.d (B true), [], [], 0⟩ :=
  CV_R (cD_ok R gk (shD11 x ro rp rq rt0 rt1) G G2 Rb 2 rr 0 0 9) 400 [(193, true)] [] rfl rfl (ob := [((!(eqF rr 2)), true), (prB (P22 (shD11 x ro rp rq rt0 rt1) x 2 rr), true), (prB (P21 R gk (shD11 x ro rp rq rt0 rt1) Rb G G2), true), (prB (P11 R X), true)]) (by kernel_rfl) (.cons (by rw [eqN hrr]; rfl) <| .cons (prB_of h22) <| .cons (prB_of h21) <| .cons (prB_of h11) <| .nil)
theorem dA3_11 {R X Rb : List (List D)} {G G2 : D} {gk start ac rr at_ : Int} (x : Bx) (ro rp rq : List D) (rt0 rt1 : D) (h11 : P11 R X) (h21 : P21 R gk (shD11 x ro rp rq rt0 rt1) Rb G G2) (h22 : P22 (shD11 x ro rp rq rt0 rt1) x 2 2) (h24 : P24 start at_) {c : VCode} {Q : VExit → St → Prop}
    (hnext : ∀ st, Seg (keepK vf4K1 0) 208 (tsD at_ 1) (blD R gk (gwF (shD11 x ro rp rq rt0 rt1) G x 2 at_) Rb G2 x) [0] 1 0 st → RX VPR c st Q) : RX VPR (seqL ((flat vf4.body).take 17)) ⟨.d (.sl X) :: .d (I start) :: List.replicate 206 .any, [], [], 0, 0, 0⟩ (thn VPR c Q) :=
  RX_segK (cD_ok R gk (shD11 x ro rp rq rt0 rt1) G G2 Rb 2 2 at_ 0 9) 400 [(196, true)] [] (ob := [(prB (P24 start at_), true), (prB (P22 (shD11 x ro rp rq rt0 rt1) x 2 2), true), (prB (P21 R gk (shD11 x ro rp rq rt0 rt1) Rb G G2), true), (prB (P11 R X), true)]) (by kernel_rfl) (.cons (prB_of h24) <| .cons (prB_of h22) <| .cons (prB_of h21) <| .cons (prB_of h11) <| .nil) hnext
end Go.Proofs.Ytgiciiknagelhaa
set_option linter.unusedVariables false
set_option maxRecDepth 100000
set_option maxHeartbeats 4000000
namespace Go.Proofs.Ytgiciiknagelhaa
open Go.VM
theorem seg_loopD {VP : VProg} {keep : List Bool} {b d : VCode} {id N ba : Nat} {vs : List V} {bl : List (List V)} {lv : List Nat} {gn : Nat} {st : St} {Q : VExit → St → Prop} (hs : Seg (keepK keep 0) N vs bl lv gn ba st) (hk : keep.length = N)
    (hf : forget keep (keepT keep vs) = keepT keep vs) (h : RX VP (.seq (.block id (.loop keep b)) d) ⟨keepT keep vs, bl, lv, gn, ba, 0⟩ Q) : RX VP (.seq (.block id (.loop keep b)) d) st Q := by
  have ht : forget keep st.tmps = keepT keep vs := (hs.at (n := 0) hk).tmps
  have hh : ∀ k, st.head keep k = St.head keep k ⟨keepT keep vs, bl, lv, gn, ba, 0⟩ := by
    intro k
    obtain ⟨ts, bs, l, g, ba, de⟩ := st
    obtain ⟨_, _, h1, h2, h3, h4, h5⟩ := hs
    simp only at h1 h2 h3 h4 h5 ht
    subst h1 h2 h3 h4 h5
    simp only [St.head, ht, hf]
  have e1 : ∀ C n k, vloop C n keep b k st = vloop C n keep b k ⟨keepT keep vs, bl, lv, gn, ba, 0⟩ := by
    intro C n k
    cases n with
    | zero => rfl
    | succ n => simp only [vloop, hh]
  have e2 : ∀ C n, vx C n (.loop keep b) st = vx C n (.loop keep b) ⟨keepT keep vs, bl, lv, gn, ba, 0⟩ := by
    intro C n
    cases n with
    | zero => rfl
    | succ n => simp only [vx, hs.blocks, e1]
  have e3 : ∀ C n, vx C n (.block id (.loop keep b)) st = vx C n (.block id (.loop keep b)) ⟨keepT keep vs, bl, lv, gn, ba, 0⟩ := by
    intro C n
    cases n with
    | zero => rfl
    | succ n => simp only [vx, e2]
  obtain ⟨e, s2, h1, h2⟩ := h
  refine ⟨e, s2, ?_, h2⟩
  obtain ⟨n, hn⟩ := X_iff.1 h1
  refine X_iff.2 ⟨n, ?_⟩
  rw [← hn]
  cases n with
  | zero => rfl
  | succ n => simp only [vx, e3]
theorem l4 : seqL ((flat vf4.body).drop 17) = .seq (.block 2 (.loop vf4K1 vf4L1)) (seqL ((flat vf4.body).drop 18)) := by kernel_rfl
theorem l4p : seqL ((flat vf4.body).drop 18) = .seq (.reg [⟨some 4, .mov (.c (.d (.lit (.bool true)))), none⟩]) (.seq .ret .skip) := by kernel_rfl
theorem l4k : vf4K1.length = 208 := by kernel_rfl
theorem l4f (a k : Int) : forget vf4K1 (keepT vf4K1 (tsD a k)) = keepT vf4K1 (tsD a k) := by kernel_rfl
theorem l4t (a k : Int) : V.ltbL 6 (keepT vf4K1 (tsD a k)) = true := by kernel_rfl
theorem l4ret {st : St} (h : st.tmps.getD 4 .any = .d (B true)) : vRet vf4 0 st = some ⟨.d (B true), [], [], 0⟩ := by
  unfold vRet
  have : getRes st vf4.res = some [.d (B true)] := by
    rw [vf4_res]
    simp only [getRes, VRes.get, h]
  rw [this, vf4_keep]
  simp [vPack, V.frz, V.er, V.ltb]
theorem l4post {st : St} (h : st.tmps.length = 208) : RX VPR (seqL ((flat vf4.body).drop 18)) st (retQ vf4 0 ⟨.d (B true), [], [], 0⟩) := by
  rw [l4p]
  refine ⟨.ret, st.put (some 4) (.d (B true)), X_seq (X_reg (st' := st.put (some 4) (.d (B true))) (by simp [vOps, vWanted, vStep, vPure, VArg.ev])) (X_seqR X_ret), .inr rfl, l4ret ?_⟩
  simp only [St.put]
  rw [List.getD_eq_getElem?_getD, List.getElem?_set_self (by omega)]
  rfl
theorem mod_ok (a : Int) : ∃ m : Int, 0 ≤ m ∧ m < 200 ∧ CV VP 24 [.d (I a), .d (I 200)] [] = some ⟨.d (I m), [], [], 0⟩ := by
  have h0 := Int.tmod_lt_of_pos a (b := 200) (by decide)
  have h1 : -200 < a.tmod 200 := by
    have := Int.lt_tmod_of_pos a (b := 200) (by decide)
    exact this
  by_cases h2 : a.tmod 200 < 0
  · refine ⟨a.tmod 200 + 200, by omega, by omega, ?_⟩
    have hw : IntKind.i64.wrap (a.tmod 200 + 200) = a.tmod 200 + 200 := w_in (by omega) (by omega)
    refine CV_run (vf := vf24) rfl rfl ?_
    rw [vf24_start]
    (repeat (first
    | refine RX_seq ?_
    | refine RX_block ?_
    | ((first | refine RX_reg ?_ | refine RX_cond' ?_ | refine RX_draw0 ?_ | refine RX_draw rfl ?_ | refine RX_skip ?_ | refine RX_gfrz ?_ | refine RX_exit ?_ | refine RX_ret ?_); try (simp only [go_sem, Nat.max_zero, List.isEmpty_cons, Int.reduceToNat, Nat.reducePow, Int.reduceEq, Int.reduceNe, Int.reduceLT, Int.reduceLE, Nat.reduceAdd, Nat.reduceLeDiff, ↓reduceIte, Nat.reduceLT, Nat.reduceMul, Nat.reduceSub, reduceCtorEq, frzLoc, rowCells, vAppM, beq_iff_eq, bne_iff_ne, bne_self_eq_false, beq_self_eq_true, beq_true, beq_false, I, B, w, vf24_res, vf24_keep, h2, hw]))))
  · refine ⟨a.tmod 200, by omega, by omega, ?_⟩
    refine CV_run (vf := vf24) rfl rfl ?_
    rw [vf24_start]
    (repeat (first
    | refine RX_seq ?_
    | refine RX_block ?_
    | ((first | refine RX_reg ?_ | refine RX_cond' ?_ | refine RX_draw0 ?_ | refine RX_draw rfl ?_ | refine RX_skip ?_ | refine RX_gfrz ?_ | refine RX_exit ?_ | refine RX_ret ?_); try (simp only [go_sem, Nat.max_zero, List.isEmpty_cons, Int.reduceToNat, Nat.reducePow, Int.reduceEq, Int.reduceNe, Int.reduceLT, Int.reduceLE, Nat.reduceAdd, Nat.reduceLeDiff, ↓reduceIte, Nat.reduceLT, Nat.reduceMul, Nat.reduceSub, reduceCtorEq, frzLoc, rowCells, vAppM, beq_iff_eq, bne_iff_ne, bne_self_eq_false, beq_self_eq_true, beq_true, beq_false, I, B, w, vf24_res, vf24_keep, h2]))))
theorem has_self {x : Bx} (hf : x.fine) : hasB x x.f x.h x.a0 x.a1 x.p1 x.l1 x.r1 = true := by
  unfold hasB
  simp only [Bool.and_eq_true, sB_iff, side_iff]
  have h1 := hf.ab0
  have h2 := hf.ab1
  have h3 := hf.p01
  have h4 := hf.l01
  have h5 := hf.r01
  exact ⟨⟨trivial, trivial, by omega, by omega⟩, ⟨trivial, trivial, by omega, by omega⟩, ⟨by omega, by omega⟩, ⟨by omega, by omega⟩, by omega, by omega⟩
theorem d_law {R X Rb : List (List D)} {G G2 : D} {gk start : Int} {x : Bx} {more : List Bx} (rs : List Ru) (p : Nat) (ho : x.ok) (hf : x.fine) (hl1 : 0 ≤ x.l1) (hr1 : 0 ≤ x.r1) (hlen : rs.length ≤ 1000) (hfine : ∀ r ∈ rs, r.fine) (hpos : rs[p]? = some ⟨2, gold, x :: more⟩)
    (hA1 : ∀ ac rr, P22 (rs.map Ru.row) x ac rr → ac ≠ 2 → CV VPR 4 [.d (.sl X), .d (I start)] [] = some ⟨.d (B true), [], [], 0⟩)
    (hA2 : ∀ rr, P22 (rs.map Ru.row) x 2 rr → rr ≠ (p : Int) → CV VPR 4 [.d (.sl X), .d (I start)] [] = some ⟨.d (B true), [], [], 0⟩)
    (hA3 : ∀ (at_ : Int) {c : VCode} {Q : VExit → St → Prop}, P22 (rs.map Ru.row) x 2 (p : Int) → P24 start at_ → (∀ st, Seg (keepK vf4K1 0) 208 (tsD at_ 1) (blD R gk (gwF (rs.map Ru.row) G x (p : Int) at_) Rb G2 x) [0] 1 0 st → RX VPR c st Q) →
      RX VPR (seqL ((flat vf4.body).take 17)) ⟨.d (.sl X) :: .d (I start) :: List.replicate 206 .any, [], [], 0, 0, 0⟩ (thn VPR c Q))
    (h83 : ∀ s, CV VPR 146 [x.ag, pkX x, .d (B true)] [] = some ⟨.d (B true), [], [], 0⟩ → P83 (rs.map Ru.row) G x (p : Int) s) : CV VPR 4 [.d (.sl X), .d (I start)] [] = some ⟨.d (B true), [], [], 0⟩ := by
  have h22 := up (d22 rs hlen hfine ho.p1 ho.l1 ho.r1 hl1 hr1 (F := x.f) (H := x.h) (A := x.a0) (A1 := x.a1))
  cases hg : ruG (hasRu x.f x.h x.a0 x.a1 x.p1 x.l1 x.r1) 0 rs with
  | none =>
    rw [hg] at h22
    exact hA1 0 (-1) h22 (by decide)
  | some i =>
    rw [hg] at h22
    obtain ⟨_, r, hri⟩ := ruG_get hg
    rw [Nat.sub_zero] at hri
    simp only [actV, hri] at h22
    by_cases hac : r.act = 2
    · rw [hac] at h22
      by_cases hip : i = p
      · subst hip
        have h77 := up (d77 rs hlen hfine ho.p1 ho.l1 ho.r1 hg hri hac)
        have h146 := up (e146 x ho x.f x.h x.a0 x.a1 x.p1 x.l1 x.r1 ho.p1 ho.l1 ho.r1)
        rw [has_self hf] at h146
        have h81 := fun s => d81 (rs.map Ru.row) G x (i : Int) s ho ho.p1 ho.l1 ho.r1 (has_self hf)
        have h83' := fun s => h83 s h146
        obtain ⟨at_, m0, m1, hmod⟩ := mod_ok start
        refine CV_run (vf := vf4) rfl rfl ?_
        refine RX_cut 17 ?_
        refine hA3 at_ h22 (up hmod) fun st hs => ?_
        rw [l4]
        refine seg_loopD hs l4k (l4f _ _) (RX_seq (RX_block (RX_loopN (n := 6) rfl ?_)))
        have w1 : ∀ {z : Int}, 0 ≤ z → z ≤ 1000 → wF z = z := fun h h' => wF_in (by omega) (by omega)
        refine RL_at (T := keepT vf4K1 (tsD at_ 1)) (bl := blD R gk (gwF (rs.map Ru.row) G x (i : Int) at_) Rb G2 x) ⟨l4f _ _, rfl, rfl, rfl, rfl, rfl⟩ (l4t _ _) (by kernel_rfl) ?_
        have h81' := h81 at_
        rw [if_pos m1] at h81'
        refine dBf h77 h81' (by decide) (by rw [w1 (by omega) (by omega)]; omega) (by rw [w1 (by omega) (by omega)]) ?_
        intro st1 hat1
        rw [w1 (z := 1 + 1) (by omega) (by omega), w1 (z := at_ + 1) (by omega) (by omega)] at hat1
        refine RL_ind (fun m st => ∃ k : Nat, k + m = 21 ∧ 2 ≤ k ∧ at_ + k ≤ 201 ∧ At vf4K1 6 st (keepT vf4K1 (tsD at_ (k : Nat))) (blD R gk (gwL (rs.map Ru.row) G x (i : Int) (at_ + k - 1)) Rb G2 x) [0] 1 0) ?_ 19 st1 ⟨2, rfl, Nat.le_refl _, by omega, by
          rw [show at_ + ((2 : Nat) : Int) - 1 = at_ + 1 by omega]; exact hat1⟩
        clear hat1 st1 h81'
        rintro m st ⟨k, hk, hk2, hk3, hat⟩ ih
        refine RL_at hat (l4t _ _) (by kernel_rfl) ?_
        clear hat
        cases m with
        | zero =>
          refine dBx (by omega) fun st2 hs2 => ?_
          show outQ 2 _ (.exit 2) st2
          exact l4post hs2
        | succ m =>
          by_cases h200 : at_ + (k : Int) ≤ 200
          · have h81' := h81 (at_ + k - 1)
            rw [if_pos (by omega)] at h81'
            refine dBg h77 h81' (by omega) (by rw [w1 (by omega) (by omega)]; exact h200) (by rw [show at_ + (k : Int) - 1 + 1 = at_ + k by omega]) ?_
            intro st2 hat2
            refine ih m st2 (Nat.lt_succ_self m) ⟨k + 1, by omega, by omega, by omega, ?_⟩
            rw [show at_ + (k : Int) - 1 + 1 = at_ + k by omega, w1 (z := (k : Int) + 1) (by omega) (by omega), w1 (z := at_ + k) (by omega) (by omega)] at hat2
            rw [show at_ + ((k + 1 : Nat) : Int) - 1 = at_ + k by omega]
            exact hat2
          · have h81' := h81 (at_ + k - 1)
            rw [if_neg (by omega)] at h81'
            refine dBe h77 h81' (h83' _) (by omega) (by rw [w1 (by omega) (by omega)]; omega) fun st2 hs2 => ?_
            show outQ 2 _ .ret st2
            exact ⟨.inr rfl, l4ret hs2⟩
      · exact hA2 i h22 (by omega)
    · exact hA1 _ _ h22 hac
end Go.Proofs.Ytgiciiknagelhaa
set_option linter.unusedVariables false
set_option maxRecDepth 100000
set_option maxHeartbeats 4000000
namespace Go.Proofs.Ytgiciiknagelhaa
open Go.VM
theorem ctxD : CtxOk [[]] 0 := CtxOk.of (by decide) rfl rfl
theorem e4L {l : List Int} (hL : ByteL l) (st : Int) : CV VPR 4 [.d (byteD l), .d (I st)] [] = some ⟨.d (B true), [], [], 0⟩ := by
  have hB := bytes_take hL 80 (by decide)
  have h11 : P11 ((l.take 80).map byteRow) (l.map byteRow) := up (e21 (l := l) 80 (by decide))
  have hlen := (ruS_len hB 0 (nxA (l.take 80) 0)).1
  have hfin := ruS_fine hB (s := 0) (by decide) (by decide) (nxA (l.take 80) 0)
  obtain ⟨pre, x, more, tail, hr, hp, hm, ht, ho, hf, hl1, hr1⟩ := ruS_pre3 hB (s := 0) (by decide) (by decide) (nxA (l.take 80) 0)
  have h21 := up (e36b hB 0 0 [[]] ctxD)
  rw [show (gaF (l.take 80) 0).1.1 = gwN 0 1 2 (ruS (l.take 80) 0 (nxA (l.take 80) 0)).1 (grpA (nxV (l.take 80) 0 12).toNat) from rfl, hr,
    show (gaF (l.take 80) 0).1.2 = gwN 1 2 1 (ruS (l.take 80) 1 (ruS (l.take 80) 0 (nxA (l.take 80) 0)).2).1 (grpB (nxV (l.take 80) 0 12).toNat) from rfl] at h21
  rw [hr] at hlen hfin
  generalize (ruS (l.take 80) 1 (ruS (l.take 80) 0 (nxA (l.take 80) 0)).2).1 = rb at h21
  generalize (gaF (l.take 80) 0).2 = gk at h21
  generalize grpA (nxV (l.take 80) 0 12).toNat = ga at h21
  generalize grpB (nxV (l.take 80) 0 12).toNat = gb at h21
  replace h21 : P21 ((l.take 80).map byteRow) (gk : Nat) ((pre ++ [(⟨2, gold, x :: more⟩ : Ru)] ++ tail).map Ru.row) (rb.map Ru.row) (.sl (ga.map numRow)) (.sl (gb.map numRow)) := h21
  clear hr
  generalize (l.take 80).map byteRow = R at h11 h21
  have hlen' : (pre ++ [(⟨2, gold, x :: more⟩ : Ru)] ++ tail).length ≤ 1000 := by omega
  match pre, hp with
  | [], _ =>
    match more, hm with
    | [], _ =>
      rcases ht with rfl | rfl
      · exact d_law [(⟨2, gold, x :: []⟩ : Ru)] 0 ho hf hl1 hr1 hlen' hfin rfl (fun _ _ h22 hac => dA1_0 x [] [] [] (.lit (.string ⟨#[]⟩)) (.sl [bypass.row]) h11 h21 h22 hac (at_ := 0)) (fun _ h22 hrr => dA2_0 x [] [] [] (.lit (.string ⟨#[]⟩)) (.sl [bypass.row]) h11 h21 h22 hrr (ac := 0) (at_ := 0)) (fun _ _ _ h22 h24 hn => dA3_0 x [] [] [] (.lit (.string ⟨#[]⟩)) (.sl [bypass.row]) h11 h21 h22 h24 (ac := 0) (rr := 0) hn) (fun s h => d83_0 x [] [] [] (.lit (.string ⟨#[]⟩)) (.sl [bypass.row]) _ s h)
      · exact d_law [(⟨2, gold, x :: []⟩ : Ru), ⟨1, ⟨#[]⟩, [bypass]⟩] 0 ho hf hl1 hr1 hlen' hfin rfl (fun _ _ h22 hac => dA1_1 x [] [] [] (.lit (.string ⟨#[]⟩)) (.sl [bypass.row]) h11 h21 h22 hac (at_ := 0)) (fun _ h22 hrr => dA2_1 x [] [] [] (.lit (.string ⟨#[]⟩)) (.sl [bypass.row]) h11 h21 h22 hrr (ac := 0) (at_ := 0)) (fun _ _ _ h22 h24 hn => dA3_1 x [] [] [] (.lit (.string ⟨#[]⟩)) (.sl [bypass.row]) h11 h21 h22 h24 (ac := 0) (rr := 0) hn) (fun s h => d83_1 x [] [] [] (.lit (.string ⟨#[]⟩)) (.sl [bypass.row]) _ s h)
    | [w1], _ =>
      rcases ht with rfl | rfl
      · exact d_law [(⟨2, gold, x :: [w1]⟩ : Ru)] 0 ho hf hl1 hr1 hlen' hfin rfl (fun _ _ h22 hac => dA1_2 x [] [] w1.row (.lit (.string ⟨#[]⟩)) (.sl [bypass.row]) h11 h21 h22 hac (at_ := 0)) (fun _ h22 hrr => dA2_2 x [] [] w1.row (.lit (.string ⟨#[]⟩)) (.sl [bypass.row]) h11 h21 h22 hrr (ac := 0) (at_ := 0)) (fun _ _ _ h22 h24 hn => dA3_2 x [] [] w1.row (.lit (.string ⟨#[]⟩)) (.sl [bypass.row]) h11 h21 h22 h24 (ac := 0) (rr := 0) hn) (fun s h => d83_2 x [] [] w1.row (.lit (.string ⟨#[]⟩)) (.sl [bypass.row]) _ s h)
      · exact d_law [(⟨2, gold, x :: [w1]⟩ : Ru), ⟨1, ⟨#[]⟩, [bypass]⟩] 0 ho hf hl1 hr1 hlen' hfin rfl (fun _ _ h22 hac => dA1_3 x [] [] w1.row (.lit (.string ⟨#[]⟩)) (.sl [bypass.row]) h11 h21 h22 hac (at_ := 0)) (fun _ h22 hrr => dA2_3 x [] [] w1.row (.lit (.string ⟨#[]⟩)) (.sl [bypass.row]) h11 h21 h22 hrr (ac := 0) (at_ := 0)) (fun _ _ _ h22 h24 hn => dA3_3 x [] [] w1.row (.lit (.string ⟨#[]⟩)) (.sl [bypass.row]) h11 h21 h22 h24 (ac := 0) (rr := 0) hn) (fun s h => d83_3 x [] [] w1.row (.lit (.string ⟨#[]⟩)) (.sl [bypass.row]) _ s h)
    | _ :: _ :: _, hm => exact absurd hm (by simp)
  | [u], _ =>
    match more, hm with
    | [], _ =>
      rcases ht with rfl | rfl
      · exact d_law [u, (⟨2, gold, x :: []⟩ : Ru)] 1 ho hf hl1 hr1 hlen' hfin rfl (fun _ _ h22 hac => dA1_4 x u.row [] [] (.lit (.string ⟨#[]⟩)) (.sl [bypass.row]) h11 h21 h22 hac (at_ := 0)) (fun _ h22 hrr => dA2_4 x u.row [] [] (.lit (.string ⟨#[]⟩)) (.sl [bypass.row]) h11 h21 h22 hrr (ac := 0) (at_ := 0)) (fun _ _ _ h22 h24 hn => dA3_4 x u.row [] [] (.lit (.string ⟨#[]⟩)) (.sl [bypass.row]) h11 h21 h22 h24 (ac := 0) (rr := 0) hn) (fun s h => d83_4 x u.row [] [] (.lit (.string ⟨#[]⟩)) (.sl [bypass.row]) _ s h)
      · exact d_law [u, (⟨2, gold, x :: []⟩ : Ru), ⟨1, ⟨#[]⟩, [bypass]⟩] 1 ho hf hl1 hr1 hlen' hfin rfl (fun _ _ h22 hac => dA1_5 x u.row [] [] (.lit (.string ⟨#[]⟩)) (.sl [bypass.row]) h11 h21 h22 hac (at_ := 0)) (fun _ h22 hrr => dA2_5 x u.row [] [] (.lit (.string ⟨#[]⟩)) (.sl [bypass.row]) h11 h21 h22 hrr (ac := 0) (at_ := 0)) (fun _ _ _ h22 h24 hn => dA3_5 x u.row [] [] (.lit (.string ⟨#[]⟩)) (.sl [bypass.row]) h11 h21 h22 h24 (ac := 0) (rr := 0) hn) (fun s h => d83_5 x u.row [] [] (.lit (.string ⟨#[]⟩)) (.sl [bypass.row]) _ s h)
    | [w1], _ =>
      rcases ht with rfl | rfl
      · exact d_law [u, (⟨2, gold, x :: [w1]⟩ : Ru)] 1 ho hf hl1 hr1 hlen' hfin rfl (fun _ _ h22 hac => dA1_6 x u.row [] w1.row (.lit (.string ⟨#[]⟩)) (.sl [bypass.row]) h11 h21 h22 hac (at_ := 0)) (fun _ h22 hrr => dA2_6 x u.row [] w1.row (.lit (.string ⟨#[]⟩)) (.sl [bypass.row]) h11 h21 h22 hrr (ac := 0) (at_ := 0)) (fun _ _ _ h22 h24 hn => dA3_6 x u.row [] w1.row (.lit (.string ⟨#[]⟩)) (.sl [bypass.row]) h11 h21 h22 h24 (ac := 0) (rr := 0) hn) (fun s h => d83_6 x u.row [] w1.row (.lit (.string ⟨#[]⟩)) (.sl [bypass.row]) _ s h)
      · exact d_law [u, (⟨2, gold, x :: [w1]⟩ : Ru), ⟨1, ⟨#[]⟩, [bypass]⟩] 1 ho hf hl1 hr1 hlen' hfin rfl (fun _ _ h22 hac => dA1_7 x u.row [] w1.row (.lit (.string ⟨#[]⟩)) (.sl [bypass.row]) h11 h21 h22 hac (at_ := 0)) (fun _ h22 hrr => dA2_7 x u.row [] w1.row (.lit (.string ⟨#[]⟩)) (.sl [bypass.row]) h11 h21 h22 hrr (ac := 0) (at_ := 0)) (fun _ _ _ h22 h24 hn => dA3_7 x u.row [] w1.row (.lit (.string ⟨#[]⟩)) (.sl [bypass.row]) h11 h21 h22 h24 (ac := 0) (rr := 0) hn) (fun s h => d83_7 x u.row [] w1.row (.lit (.string ⟨#[]⟩)) (.sl [bypass.row]) _ s h)
    | _ :: _ :: _, hm => exact absurd hm (by simp)
  | [u, v], _ =>
    match more, hm with
    | [], _ =>
      rcases ht with rfl | rfl
      · exact d_law [u, v, (⟨2, gold, x :: []⟩ : Ru)] 2 ho hf hl1 hr1 hlen' hfin rfl (fun _ _ h22 hac => dA1_8 x u.row v.row [] (.lit (.string ⟨#[]⟩)) (.sl [bypass.row]) h11 h21 h22 hac (at_ := 0)) (fun _ h22 hrr => dA2_8 x u.row v.row [] (.lit (.string ⟨#[]⟩)) (.sl [bypass.row]) h11 h21 h22 hrr (ac := 0) (at_ := 0)) (fun _ _ _ h22 h24 hn => dA3_8 x u.row v.row [] (.lit (.string ⟨#[]⟩)) (.sl [bypass.row]) h11 h21 h22 h24 (ac := 0) (rr := 0) hn) (fun s h => d83_8 x u.row v.row [] (.lit (.string ⟨#[]⟩)) (.sl [bypass.row]) _ s h)
      · exact d_law [u, v, (⟨2, gold, x :: []⟩ : Ru), ⟨1, ⟨#[]⟩, [bypass]⟩] 2 ho hf hl1 hr1 hlen' hfin rfl (fun _ _ h22 hac => dA1_9 x u.row v.row [] (.lit (.string ⟨#[]⟩)) (.sl [bypass.row]) h11 h21 h22 hac (at_ := 0)) (fun _ h22 hrr => dA2_9 x u.row v.row [] (.lit (.string ⟨#[]⟩)) (.sl [bypass.row]) h11 h21 h22 hrr (ac := 0) (at_ := 0)) (fun _ _ _ h22 h24 hn => dA3_9 x u.row v.row [] (.lit (.string ⟨#[]⟩)) (.sl [bypass.row]) h11 h21 h22 h24 (ac := 0) (rr := 0) hn) (fun s h => d83_9 x u.row v.row [] (.lit (.string ⟨#[]⟩)) (.sl [bypass.row]) _ s h)
    | [w1], _ =>
      rcases ht with rfl | rfl
      · exact d_law [u, v, (⟨2, gold, x :: [w1]⟩ : Ru)] 2 ho hf hl1 hr1 hlen' hfin rfl (fun _ _ h22 hac => dA1_10 x u.row v.row w1.row (.lit (.string ⟨#[]⟩)) (.sl [bypass.row]) h11 h21 h22 hac (at_ := 0)) (fun _ h22 hrr => dA2_10 x u.row v.row w1.row (.lit (.string ⟨#[]⟩)) (.sl [bypass.row]) h11 h21 h22 hrr (ac := 0) (at_ := 0)) (fun _ _ _ h22 h24 hn => dA3_10 x u.row v.row w1.row (.lit (.string ⟨#[]⟩)) (.sl [bypass.row]) h11 h21 h22 h24 (ac := 0) (rr := 0) hn) (fun s h => d83_10 x u.row v.row w1.row (.lit (.string ⟨#[]⟩)) (.sl [bypass.row]) _ s h)
      · exact d_law [u, v, (⟨2, gold, x :: [w1]⟩ : Ru), ⟨1, ⟨#[]⟩, [bypass]⟩] 2 ho hf hl1 hr1 hlen' hfin rfl (fun _ _ h22 hac => dA1_11 x u.row v.row w1.row (.lit (.string ⟨#[]⟩)) (.sl [bypass.row]) h11 h21 h22 hac (at_ := 0)) (fun _ h22 hrr => dA2_11 x u.row v.row w1.row (.lit (.string ⟨#[]⟩)) (.sl [bypass.row]) h11 h21 h22 hrr (ac := 0) (at_ := 0)) (fun _ _ _ h22 h24 hn => dA3_11 x u.row v.row w1.row (.lit (.string ⟨#[]⟩)) (.sl [bypass.row]) h11 h21 h22 h24 (ac := 0) (rr := 0) hn) (fun s h => d83_11 x u.row v.row w1.row (.lit (.string ⟨#[]⟩)) (.sl [bypass.row]) _ s h)
    | _ :: _ :: _, hm => exact absurd hm (by simp)
  | _ :: _ :: _ :: _, hp => exact absurd hp (by simp)
end Go.Proofs.Ytgiciiknagelhaa
