/- Boxes, and two gateways behind the first exchange, on the machine. Conditions: none. -/
import Derived.Test.YtgiciiknagelhaaVd
import Derived.Test.YtgiciiknagelhaaAbx
set_option linter.unusedSimpArgs false
namespace Go.Proofs.Ytgiciiknagelhaa
open Go.VM
end Go.Proofs.Ytgiciiknagelhaa
namespace Go.Proofs.Ytgiciiknagelhaa
open Go.VM
end Go.Proofs.Ytgiciiknagelhaa
namespace Go.Proofs.Ytgiciiknagelhaa
open Go.VM
end Go.Proofs.Ytgiciiknagelhaa
namespace Go.Proofs.Ytgiciiknagelhaa
open Go.VM
end Go.Proofs.Ytgiciiknagelhaa
namespace Go.Proofs.Ytgiciiknagelhaa
open Go.VM
def Bx.beq (x y : Bx) : Bool := decide (x.f = y.f) && (decide (x.h = y.h) && (decide (x.a0 = y.a0) && (decide (x.b0 = y.b0) && (decide (x.a1 = y.a1) && (decide (x.b1 = y.b1) && (decide (x.p0 = y.p0) && (decide (x.p1 = y.p1) && (decide (x.l0 = y.l0) && (decide (x.l1 = y.l1) && (decide (x.r0 = y.r0) && decide (x.r1 = y.r1)))))))))))
end Go.Proofs.Ytgiciiknagelhaa
namespace Go.Proofs.Ytgiciiknagelhaa
open Go.VM
instance (x y : Bx) : Decidable (x.over y) := by unfold Bx.over; infer_instance
end Go.Proofs.Ytgiciiknagelhaa
namespace Go.Proofs.Ytgiciiknagelhaa
open Go.VM
end Go.Proofs.Ytgiciiknagelhaa
set_option maxRecDepth 100000
namespace Go.Proofs.Ytgiciiknagelhaa
open Go.VM
abbrev nR (n : Int) : List D := [I 1, I n, .sl []]
abbrev goldS : D := .lit (.string ⟨#[103, 111, 108, 100]⟩)
theorem fam_in {x : Bx} (h : x.ok) : 0 ≤ x.h ∧ x.h ≤ 2305843009213693952 := by rcases h.fam with ⟨_, h⟩ | ⟨_, h⟩ <;> omega
def bytsR : List UInt8 → List (List D)
  | [] => []
  | b :: bs => nR (Int.ofNat b.toNat) :: bytsR bs
def bxP (f0 h0 a0 f1 h1 a1 f2 h2 a2 f3 h3 a3 p0 p1 l0 l1 r0 r1 : Int) (t : ByteArray) : V := .agg [.d (I 3), .d (I 0), .d (.sl (nR 11 :: nR f0 :: nR h0 :: nR a0 :: nR f1 :: nR h1 :: nR a1 :: nR f2 :: nR h2 :: nR a2 :: nR f3 :: nR h3 :: nR a3 :: nR p0 :: nR p1 :: nR l0 :: nR l1 :: nR r0 :: nR r1 :: bytsR t.data.toList))]
end Go.Proofs.Ytgiciiknagelhaa
set_option maxRecDepth 100000
namespace Go.Proofs.Ytgiciiknagelhaa
open Go.VM
theorem ruS_shape {l : List Int} (hB : Bytes l) {s : Int} (h0 : 0 ≤ s) (h1 : s ≤ 1) (k : Nat) : ∃ (pre : List Ru) (x : Bx) (more : List Bx) (tail : List Ru), (ruS l s k).1 = pre ++ [⟨2, gold, x :: more⟩] ++ tail ∧ pre.length ≤ 2 ∧ more.length ≤ 1 ∧
    (tail = [] ∨ tail = [⟨1, ⟨#[]⟩, [bypass]⟩]) ∧ x.ok ∧ x.fine := by
  have r := nxV_range hB (k := k) (n := 3) (by decide)
  unfold ruS goldF endF
  simp only
  generalize hp : drL (ruF l s) (nxV l k 3).toNat (nxA l k) = p
  have hlen : p.1.length ≤ 2 := by rw [← hp, drL_len]; omega
  split
  · have hb := bxF_both hB h0 h1 (nxA l p.2)
    refine ⟨p.1, _, [(bxF [] s 0).1], _, rfl, hlen, by simp, ?_, hb.1, hb.2⟩
    split
    · exact .inr rfl
    · exact .inl rfl
  · have hb := bxF_both bytes_nil h0 h1 0
    refine ⟨p.1, _, [], _, rfl, hlen, by simp, ?_, hb.1, hb.2⟩
    split
    · exact .inr rfl
    · exact .inl rfl
end Go.Proofs.Ytgiciiknagelhaa
set_option maxRecDepth 100000
namespace Go.Proofs.Ytgiciiknagelhaa
open Go.VM
theorem k32g (f h a0 b0 a1 b1 p0 p1 l0 l1 s0 s1 : Int) : CV VP 169 [.agg [.d (I f), .d (U h), .d (U a0), .d (I f), .d (U h), .d (U b0), .d (I f), .d (U h), .d (U a1), .d (I f), .d (U h), .d (U b1), .d (I p0), .d (I p1), .d (I l0), .d (I l1), .d (I s0), .d (I s1)], .d goldS] [] =
    some ⟨.agg [.d (I 3), .d (I 0), .d (.sl [nR 11, nR f, nR (wF h), nR (wF a0), nR f, nR (wF h), nR (wF b0), nR f, nR (wF h), nR (wF a1), nR f, nR (wF h), nR (wF b1), nR p0, nR p1, nR l0, nR l1, nR s0, nR s1, nR 103, nR 111, nR 108, nR 100])], [], [], 0⟩ :=
  CV_R (C := cA VP vft.get noNat 400 60) (cA_ok vft_ok noNat 400 60) 400 [(1, true), (0, true), (3, true), (0, true), (3, true), (0, true), (3, true), (0, true)] [] rfl rfl (ob := []) (by kernel_rfl) .nil
theorem h32g (x : Bx) (ho : x.ok) (hf : x.fine) : CV VP 169 [x.ag, .d goldS] [] = some ⟨.agg [.d (I 3), .d (I 0), .d (.sl [nR 11, nR x.f, nR x.h, nR x.a0, nR x.f, nR x.h, nR x.b0, nR x.f, nR x.h, nR x.a1, nR x.f, nR x.h, nR x.b1, nR x.p0, nR x.p1, nR x.l0, nR x.l1, nR x.r0, nR x.r1, nR 103, nR 111, nR 108, nR 100])], [], [], 0⟩ := by
  obtain ⟨f1, f2⟩ := fam_in ho
  have g0 := hf.a0
  have g1 := hf.b0
  have g2 := hf.a1
  have g3 := hf.b1
  have g4 := hf.ab0
  have g5 := hf.ab1
  have h := k32g x.f x.h x.a0 x.b0 x.a1 x.b1 x.p0 x.p1 x.l0 x.l1 x.r0 x.r1
  rw [wF_in (n := x.h) (by omega) (by omega), wF_in (n := x.a0) (by omega) (by omega), wF_in (n := x.b0) (by omega) (by omega), wF_in (n := x.a1) (by omega) (by omega), wF_in (n := x.b1) (by omega) (by omega)] at h
  exact h
end Go.Proofs.Ytgiciiknagelhaa
namespace Go.Proofs.Ytgiciiknagelhaa
open Go.VM
def Bx.eqb (m x : Bx) : Bool := m.f == x.f && (m.h == x.h && (m.a0 == x.a0 && (m.f == x.f && (m.h == x.h && (m.b0 == x.b0 && (m.f == x.f && (m.h == x.h && (m.a1 == x.a1 && (m.f == x.f && (m.h == x.h && (m.b1 == x.b1 && (m.p0 == x.p0 && (m.p1 == x.p1 && (m.l0 == x.l0 && (m.l1 == x.l1 && (m.r0 == x.r0 && (m.r1 == x.r1)))))))))))))))))
end Go.Proofs.Ytgiciiknagelhaa
set_option maxRecDepth 100000
namespace Go.Proofs.Ytgiciiknagelhaa
open Go.VM
end Go.Proofs.Ytgiciiknagelhaa
set_option linter.unusedVariables false
set_option maxRecDepth 100000
set_option maxHeartbeats 4000000
namespace Go.Proofs.Ytgiciiknagelhaa
open Go.VM
structure Mc where
  m0 : D
  m1 : D
  m2 : D
  m3 : D
  m4 : D
  m5 : D
abbrev pM (M : Mc) : List V := [.d M.m0, .d M.m1, .d M.m2]
abbrev pN (M : Mc) : List V := [.d M.m3, .d M.m4, .d M.m5]
noncomputable def AR1 (R : List (List D)) (gk : Int) (Rl : List (List D)) (G G2 : D) (Rb SA DD : List (List D)) : Orc := fun f a b => match Nat.beq f 21 with
  | true => match b with
    | b0 :: b1 :: [_, .d (.lit (.int _ k))] :: bs => some ⟨.tup [.agg [.d (I 0), .d (I 1), .d (I 1), .d (I 2), .d (.sl Rl), .d G, .d (I 0), .d (I 2), .d (I 2), .d (I 1), .d (.sl []), .d (I 2), .d (I 2), .d (.sl []), .d (I 0), .d (.sl []), .d (.sl []), .d (.sl []), .d (.sl [])], .agg [.d (I 1), .d (I 0), .d (I 2), .d (I 1), .d (.sl Rb), .d G2, .d (I 0), .d (I 2), .d (I 2), .d (I 1048577), .d (.sl []), .d (I 2), .d (I 1048578), .d (.sl []), .d (I 0), .d (.sl []), .d (.sl []), .d (.sl []), .d (.sl [])]], b0 :: b1 :: [.d (.sl R), .d (I gk)] :: bs, [], 0⟩
    | _ => none
  | false => match Nat.beq f 43 with
    | true => some ⟨.tup [.agg [.d (I 0), .d (I 1), .d (I 1), .d (I 2), .d (.sl Rl), .d G, .d (I 0), .d (I 5), .d (I 2), .d (I 1), .d (.sl []), .d (I 2), .d (I 2), .d (.sl []), .d (I 0), .d (.sl []), .d (.sl SA), .sl 42 [] .full, .d (.sl [])], .d (.sl DD), .d (I 0)], [], [], 0⟩
    | false => none
abbrev y37_0 : List D := [I 3, I 0, .sl [[I 1, I 1, .sl []], [I 1, I 31, .sl []]]]
abbrev y37_1 : List D := [I 3, I 0, .sl [[I 1, I 2, .sl []], [I 1, I 31, .sl []], [I 4, I 0, .sl [[I 2, I 5, .sl []]]]]]
abbrev y37_2 : List D := [I 3, I 0, .sl [[I 1, I 3, .sl []], [I 2, I 4, .sl []]]]
abbrev y37_3 : List D := [I 6, I 8, .sl [[I 1, I 1003, .sl []], [I 1, I 1, .sl []]]]
abbrev y37_4 : List D := [I 6, I 8, .sl [[I 1, I 1003, .sl []], [I 1, I 2, .sl []]]]
abbrev y37_5 : List D := [I 3, I 0, .sl [[I 1, I 7, .sl []], y37_3, y37_4]]
abbrev y37_6 : List (List D) := [[I 1, I 34, .sl []], [I 1, I 1003, .sl []], [I 1, I 0, .sl []], [I 1, I 2, .sl []], [I 1, I 0, .sl []], [I 3, I 0, .sl [y37_0, y37_1, y37_2, y37_5]]]
abbrev y37_7 : List D := [I 3, I 0, .sl [[I 1, I 1, .sl []], [I 1, I 31, .sl []], [I 1, I 1024, .sl []]]]
abbrev y37_8 : List (List D) := [[I 1, I 34, .sl []], [I 1, I 1003, .sl []], [I 1, I 0, .sl []], [I 1, I 2, .sl []], [I 1, I 0, .sl []], [I 3, I 0, .sl [y37_7, y37_1, y37_2, y37_5]]]
abbrev y37_9 : List D := [I 3, I 0, .sl [[I 1, I 1, .sl []], [I 1, I 1024, .sl []], [I 1, I 31, .sl []]]]
abbrev y37_10 : List D := [I 3, I 0, .sl [[I 1, I 2, .sl []], [I 1, I 1024, .sl []], [I 4, I 0, .sl [[I 2, I 5, .sl []]]]]]
abbrev y37_11 : List (List D) := [[I 1, I 34, .sl []], [I 1, I 1003, .sl []], [I 1, I 0, .sl []], [I 1, I 2, .sl []], [I 1, I 0, .sl []], [I 3, I 0, .sl [y37_9, y37_10, y37_2, y37_5]]]
abbrev y37_12 : List D := [I 3, I 0, .sl [[I 1, I 1, .sl []], [I 1, I 1024, .sl []]]]
abbrev y37_13 : List (List D) := [[I 1, I 34, .sl []], [I 1, I 1003, .sl []], [I 1, I 0, .sl []], [I 1, I 2, .sl []], [I 1, I 0, .sl []], [I 3, I 0, .sl [y37_12, y37_10, y37_2, y37_5]]]
abbrev y37_14 : List (List D) := [[I 6, I 1, .sl [[I 2, I 4, .sl []], [I 2, I 1048580, .sl []], [I 5, I 0, .sl [[I 2, I 5, .sl []], [I 2, I 1048581, .sl []]]]]], [I 1, I 1003, .sl []], [I 1, I 2003, .sl []]]
abbrev y37_15 : List D := [I 4, I 0, .sl [[I 2, I 1048581, .sl []]]]
abbrev y37_16 : List D := [I 3, I 0, .sl [[I 1, I 3, .sl []], [I 2, I 1048580, .sl []]]]
abbrev y37_17 : List D := [I 3, I 0, .sl [[I 1, I 7, .sl []], y37_4, y37_3]]
abbrev y37_18 : List (List D) := [[I 1, I 34, .sl []], [I 1, I 1003, .sl []], [I 1, I 2003, .sl []], [I 1, I 1, .sl []], [I 1, I 0, .sl []], [I 3, I 0, .sl [y37_0, [I 3, I 0, .sl [[I 1, I 2, .sl []], [I 1, I 31, .sl []], y37_15]], y37_16, y37_17]]]
abbrev y37_19 : List (List D) := [[I 2003, I 1003, I 1, I 3, I 0, .sl y37_8, I 3, I 0, .sl y37_18, I 2, I 1048580, .sl [], I 2, I 4, .sl [], I 6, I 2, .sl y37_14, I 6, I 4, .sl y37_14, I 6, I 3, .sl y37_14, I 0, B false]]
abbrev y37_20 : List (List D) := [[I 6, I 1, .sl [[I 2, I 4, .sl []], [I 2, I 1048580, .sl []], [I 5, I 0, .sl [[I 2, I 6, .sl []], [I 2, I 1048581, .sl []]]]]], [I 1, I 1003, .sl []], [I 1, I 2003, .sl []]]
abbrev y37_21 : List (List D) := [[I 1, I 34, .sl []], [I 1, I 1003, .sl []], [I 1, I 0, .sl []], [I 1, I 2, .sl []], [I 1, I 0, .sl []], [I 3, I 0, .sl [y37_7, [I 3, I 0, .sl [[I 1, I 2, .sl []], [I 1, I 1024, .sl []], [I 4, I 0, .sl [[I 2, I 6, .sl []]]]]], y37_2, y37_5]]]
abbrev y37_22 : List (List D) := [[I 1, I 34, .sl []], [I 1, I 1003, .sl []], [I 1, I 2003, .sl []], [I 1, I 1, .sl []], [I 1, I 0, .sl []], [I 3, I 0, .sl [y37_12, [I 3, I 0, .sl [[I 1, I 2, .sl []], [I 1, I 1024, .sl []], y37_15]], y37_16, y37_17]]]
abbrev y37_23 : List (List D) := [[I 1, I 34, .sl []], [I 1, I 1003, .sl []], [I 1, I 0, .sl []], [I 1, I 2, .sl []], [I 1, I 0, .sl []], [I 3, I 0, .sl [y37_9, [I 3, I 0, .sl [[I 1, I 2, .sl []], [I 1, I 31, .sl []], [I 4, I 0, .sl [[I 2, I 6, .sl []]]]]], y37_2, y37_5]]]
abbrev saV0 (ri f h a0 b0 a1 b1 p0 p1 l0 l1 s0 s1 : Int) : List (List D) := [[I 1003, I 0, B true, I 1, I 1, I 2, I 0, I 0, .sl [], I 0, I 0, .sl [], I 0, I 0, .sl [], I 2, I 4, .sl [], I 0, I 0, .sl [], I 3, I 0, .sl y37_6, I 0, I 0, .sl [], I 1, I 0, I 1, I 0, I 3, I 0, .sl y37_6, I 2, I 1, I 2, I 2, I 4, .sl [], I 2, I 5, .sl [], I 0, I 0, I ri, I f, U h, U a0, I f, U h, U b0, I f, U h, U a1, I f, U h, U b1, I p0, I p1, I l0, I l1, I s0, I s1, I 0, I 0, .sl [], .sl [], I (-1), I 0, I 0, .sl [], I 0, I 0, I 0, I 0, I 0, B false, I 0, B false, I 0]]
abbrev ddV0 : List (List D) := [[I 1, I 2, I 3, I 0, .sl y37_6]]
abbrev saV1 (ri f h a0 b0 a1 b1 p0 p1 l0 l1 s0 s1 : Int) : List (List D) := [[I 1003, I 0, B true, I 1, I 1, I 2, I 0, I 0, .sl [], I 0, I 0, .sl [], I 0, I 0, .sl [], I 2, I 4, .sl [], I 0, I 0, .sl [], I 3, I 0, .sl y37_8, I 0, I 0, .sl [], I 1, I 0, I 1, I 0, I 3, I 0, .sl y37_8, I 2, I 1, I 2, I 2, I 4, .sl [], I 2, I 5, .sl [], I 0, I 0, I ri, I f, U h, U a0, I f, U h, U b0, I f, U h, U a1, I f, U h, U b1, I p0, I p1, I l0, I l1, I s0, I s1, I 0, I 0, .sl [], .sl [], I (-1), I 0, I 0, .sl [], I 0, I 0, I 0, I 0, I 0, B false, I 0, B false, I 0]]
abbrev ddV1 : List (List D) := [[I 1, I 2, I 3, I 0, .sl y37_8]]
abbrev saV2 (ri f h a0 b0 a1 b1 p0 p1 l0 l1 s0 s1 : Int) : List (List D) := [[I 1003, I 0, B true, I 1, I 1, I 2, I 0, I 0, .sl [], I 0, I 0, .sl [], I 0, I 0, .sl [], I 2, I 4, .sl [], I 0, I 0, .sl [], I 3, I 0, .sl y37_11, I 0, I 0, .sl [], I 1, I 0, I 1, I 0, I 3, I 0, .sl y37_11, I 2, I 1, I 2, I 2, I 4, .sl [], I 2, I 5, .sl [], I 0, I 0, I ri, I f, U h, U a0, I f, U h, U b0, I f, U h, U a1, I f, U h, U b1, I p0, I p1, I l0, I l1, I s0, I s1, I 0, I 0, .sl [], .sl [], I (-1), I 0, I 0, .sl [], I 0, I 0, I 0, I 0, I 0, B false, I 0, B false, I 0]]
abbrev ddV2 : List (List D) := [[I 1, I 2, I 3, I 0, .sl y37_11]]
abbrev saV3 (ri f h a0 b0 a1 b1 p0 p1 l0 l1 s0 s1 : Int) : List (List D) := [[I 1003, I 0, B true, I 1, I 1, I 2, I 0, I 0, .sl [], I 0, I 0, .sl [], I 0, I 0, .sl [], I 2, I 4, .sl [], I 0, I 0, .sl [], I 3, I 0, .sl y37_13, I 0, I 0, .sl [], I 1, I 0, I 1, I 0, I 3, I 0, .sl y37_13, I 2, I 1, I 2, I 2, I 4, .sl [], I 2, I 5, .sl [], I 0, I 0, I ri, I f, U h, U a0, I f, U h, U b0, I f, U h, U a1, I f, U h, U b1, I p0, I p1, I l0, I l1, I s0, I s1, I 0, I 0, .sl [], .sl [], I (-1), I 0, I 0, .sl [], I 0, I 0, I 0, I 0, I 0, B false, I 0, B false, I 0]]
abbrev ddV3 : List (List D) := [[I 1, I 2, I 3, I 0, .sl y37_13]]
abbrev jZ : List V := [.d (I 0), .d (I 0), .d (I 0), .d (I 0), .d (.sl []), .d (.sl []), .d (I 0), .d (I 0), .d (I 0), .d (I 0), .d (.sl []), .d (I 0), .d (I 0), .d (.sl []), .d (I 0), .d (.sl []), .d (.sl []), .d (.sl []), .d (.sl [])]
abbrev jA0 (Ra : List (List D)) (G : D) : List V := [.d (I 0), .d (I 1), .d (I 1), .d (I 2), .d (.sl Ra), .d G, .d (I 0), .d (I 2), .d (I 2), .d (I 1), .d (.sl []), .d (I 2), .d (I 2), .d (.sl []), .d (I 0), .d (.sl []), .d (.sl []), .d (.sl []), .d (.sl [])]
abbrev jA1 (Ra : List (List D)) (G : D) (SA : List (List D)) : List V := [.d (I 0), .d (I 1), .d (I 1), .d (I 2), .d (.sl Ra), .d G, .d (I 0), .d (I 5), .d (I 2), .d (I 1), .d (.sl []), .d (I 2), .d (I 2), .d (.sl []), .d (I 0), .d (.sl []), .d (.sl SA), .sl 42 [] .full, .d (.sl [])]
abbrev jB0 (Rb : List (List D)) (G : D) : List V := [.d (I 1), .d (I 0), .d (I 2), .d (I 1), .d (.sl Rb), .d G, .d (I 0), .d (I 2), .d (I 2), .d (I 1048577), .d (.sl []), .d (I 2), .d (I 1048578), .d (.sl []), .d (I 0), .d (.sl []), .d (.sl []), .d (.sl []), .d (.sl [])]
abbrev bxJ (f h a0 b0 a1 b1 p0 p1 l0 l1 s0 s1 : Int) : V := .agg [.d (I f), .d (U h), .d (U a0), .d (I f), .d (U h), .d (U b0), .d (I f), .d (U h), .d (U a1), .d (I f), .d (U h), .d (U b1), .d (I p0), .d (I p1), .d (I l0), .d (I l1), .d (I s0), .d (I s1)]
theorem eb_0 (Ra : List (List D)) (ri f h a0 b0 a1 b1 p0 p1 l0 l1 s0 s1 : Int) : CV VP 43 [.agg (jA0 Ra (.sl [[I 31]])), .d (I 2), .d (I ri), (bxJ f h a0 b0 a1 b1 p0 p1 l0 l1 s0 s1)] [] = some ⟨.tup [.agg (jA1 Ra (.sl [[I 31]]) (saV0 ri f h a0 b0 a1 b1 p0 p1 l0 l1 s0 s1)), .d (.sl ddV0), .d (I 0)], [], [], 0⟩ :=
  CV_R (cA_ok vft_ok noNat 400 60) 400 [] [] rfl rfl (ob := [((prB (([.d (I 0), .d (I 1), .d (I 1), .d (I 2), .d (.sl Ra), .d (.sl [[I 31]]), .d (I 0), .d (I 5), .d (I 2), .d (I 1), .d (.sl []), .d (I 2), .d (I 2), .d (.sl []), .d (I 0), .d (.sl []), .loc 7 0 1 81, .sl 42 [] .full, .d (.sl [])] : List V) = [.d (I 0), .d (I 1), .d (I 1), .d (I 2), .d (.sl Ra), .d (.sl [[I 31]]), .d (I 0), .d (I 5), .d (I 2), .d (I 1), .d (.sl []), .d (I 2), .d (I 2), .d (.sl []), .d (I 0), .d (.sl []), .loc 7 0 1 81, .sl 42 [] .full, .d (.sl [])])), true), ((prB (([.d (I 0), .d (I 1), .d (I 1), .d (I 2), .d (.sl Ra), .d (.sl [[I 31]]), .d (I 0), .d (I 5), .d (I 2), .d (I 1), .d (.sl []), .d (I 2), .d (I 2), .d (.sl []), .d (I 0), .d (.sl []), .loc 7 0 1 81, .sl 42 [] .full, .d (.sl [])] : List V) = [.d (I 0), .d (I 1), .d (I 1), .d (I 2), .d (.sl Ra), .d (.sl [[I 31]]), .d (I 0), .d (I 5), .d (I 2), .d (I 1), .d (.sl []), .d (I 2), .d (I 2), .d (.sl []), .d (I 0), .d (.sl []), .loc 7 0 1 81, .sl 42 [] .full, .d (.sl [])])), true)]) (by kernel_rfl) (.cons (prB_of rfl) <| .cons (prB_of rfl) <| .nil)
theorem eb_1 (Ra : List (List D)) (ri f h a0 b0 a1 b1 p0 p1 l0 l1 s0 s1 : Int) : CV VP 43 [.agg (jA0 Ra (.sl [[I 31], [I 1024]])), .d (I 2), .d (I ri), (bxJ f h a0 b0 a1 b1 p0 p1 l0 l1 s0 s1)] [] = some ⟨.tup [.agg (jA1 Ra (.sl [[I 31], [I 1024]]) (saV1 ri f h a0 b0 a1 b1 p0 p1 l0 l1 s0 s1)), .d (.sl ddV1), .d (I 0)], [], [], 0⟩ :=
  CV_R (cA_ok vft_ok noNat 400 60) 400 [] [] rfl rfl (ob := [((prB (([.d (I 0), .d (I 1), .d (I 1), .d (I 2), .d (.sl Ra), .d (.sl [[I 31], [I 1024]]), .d (I 0), .d (I 5), .d (I 2), .d (I 1), .d (.sl []), .d (I 2), .d (I 2), .d (.sl []), .d (I 0), .d (.sl []), .loc 7 0 1 81, .sl 42 [] .full, .d (.sl [])] : List V) = [.d (I 0), .d (I 1), .d (I 1), .d (I 2), .d (.sl Ra), .d (.sl [[I 31], [I 1024]]), .d (I 0), .d (I 5), .d (I 2), .d (I 1), .d (.sl []), .d (I 2), .d (I 2), .d (.sl []), .d (I 0), .d (.sl []), .loc 7 0 1 81, .sl 42 [] .full, .d (.sl [])])), true), ((prB (([.d (I 0), .d (I 1), .d (I 1), .d (I 2), .d (.sl Ra), .d (.sl [[I 31], [I 1024]]), .d (I 0), .d (I 5), .d (I 2), .d (I 1), .d (.sl []), .d (I 2), .d (I 2), .d (.sl []), .d (I 0), .d (.sl []), .loc 7 0 1 81, .sl 42 [] .full, .d (.sl [])] : List V) = [.d (I 0), .d (I 1), .d (I 1), .d (I 2), .d (.sl Ra), .d (.sl [[I 31], [I 1024]]), .d (I 0), .d (I 5), .d (I 2), .d (I 1), .d (.sl []), .d (I 2), .d (I 2), .d (.sl []), .d (I 0), .d (.sl []), .loc 7 0 1 81, .sl 42 [] .full, .d (.sl [])])), true)]) (by kernel_rfl) (.cons (prB_of rfl) <| .cons (prB_of rfl) <| .nil)
theorem eb_2 (Ra : List (List D)) (ri f h a0 b0 a1 b1 p0 p1 l0 l1 s0 s1 : Int) : CV VP 43 [.agg (jA0 Ra (.sl [[I 1024], [I 31]])), .d (I 2), .d (I ri), (bxJ f h a0 b0 a1 b1 p0 p1 l0 l1 s0 s1)] [] = some ⟨.tup [.agg (jA1 Ra (.sl [[I 1024], [I 31]]) (saV2 ri f h a0 b0 a1 b1 p0 p1 l0 l1 s0 s1)), .d (.sl ddV2), .d (I 0)], [], [], 0⟩ :=
  CV_R (cA_ok vft_ok noNat 400 60) 400 [] [] rfl rfl (ob := [((prB (([.d (I 0), .d (I 1), .d (I 1), .d (I 2), .d (.sl Ra), .d (.sl [[I 1024], [I 31]]), .d (I 0), .d (I 5), .d (I 2), .d (I 1), .d (.sl []), .d (I 2), .d (I 2), .d (.sl []), .d (I 0), .d (.sl []), .loc 7 0 1 81, .sl 42 [] .full, .d (.sl [])] : List V) = [.d (I 0), .d (I 1), .d (I 1), .d (I 2), .d (.sl Ra), .d (.sl [[I 1024], [I 31]]), .d (I 0), .d (I 5), .d (I 2), .d (I 1), .d (.sl []), .d (I 2), .d (I 2), .d (.sl []), .d (I 0), .d (.sl []), .loc 7 0 1 81, .sl 42 [] .full, .d (.sl [])])), true), ((prB (([.d (I 0), .d (I 1), .d (I 1), .d (I 2), .d (.sl Ra), .d (.sl [[I 1024], [I 31]]), .d (I 0), .d (I 5), .d (I 2), .d (I 1), .d (.sl []), .d (I 2), .d (I 2), .d (.sl []), .d (I 0), .d (.sl []), .loc 7 0 1 81, .sl 42 [] .full, .d (.sl [])] : List V) = [.d (I 0), .d (I 1), .d (I 1), .d (I 2), .d (.sl Ra), .d (.sl [[I 1024], [I 31]]), .d (I 0), .d (I 5), .d (I 2), .d (I 1), .d (.sl []), .d (I 2), .d (I 2), .d (.sl []), .d (I 0), .d (.sl []), .loc 7 0 1 81, .sl 42 [] .full, .d (.sl [])])), true)]) (by kernel_rfl) (.cons (prB_of rfl) <| .cons (prB_of rfl) <| .nil)
theorem eb_3 (Ra : List (List D)) (ri f h a0 b0 a1 b1 p0 p1 l0 l1 s0 s1 : Int) : CV VP 43 [.agg (jA0 Ra (.sl [[I 1024]])), .d (I 2), .d (I ri), (bxJ f h a0 b0 a1 b1 p0 p1 l0 l1 s0 s1)] [] = some ⟨.tup [.agg (jA1 Ra (.sl [[I 1024]]) (saV3 ri f h a0 b0 a1 b1 p0 p1 l0 l1 s0 s1)), .d (.sl ddV3), .d (I 0)], [], [], 0⟩ :=
  CV_R (cA_ok vft_ok noNat 400 60) 400 [] [] rfl rfl (ob := [((prB (([.d (I 0), .d (I 1), .d (I 1), .d (I 2), .d (.sl Ra), .d (.sl [[I 1024]]), .d (I 0), .d (I 5), .d (I 2), .d (I 1), .d (.sl []), .d (I 2), .d (I 2), .d (.sl []), .d (I 0), .d (.sl []), .loc 7 0 1 81, .sl 42 [] .full, .d (.sl [])] : List V) = [.d (I 0), .d (I 1), .d (I 1), .d (I 2), .d (.sl Ra), .d (.sl [[I 1024]]), .d (I 0), .d (I 5), .d (I 2), .d (I 1), .d (.sl []), .d (I 2), .d (I 2), .d (.sl []), .d (I 0), .d (.sl []), .loc 7 0 1 81, .sl 42 [] .full, .d (.sl [])])), true), ((prB (([.d (I 0), .d (I 1), .d (I 1), .d (I 2), .d (.sl Ra), .d (.sl [[I 1024]]), .d (I 0), .d (I 5), .d (I 2), .d (I 1), .d (.sl []), .d (I 2), .d (I 2), .d (.sl []), .d (I 0), .d (.sl []), .loc 7 0 1 81, .sl 42 [] .full, .d (.sl [])] : List V) = [.d (I 0), .d (I 1), .d (I 1), .d (I 2), .d (.sl Ra), .d (.sl [[I 1024]]), .d (I 0), .d (I 5), .d (I 2), .d (I 1), .d (.sl []), .d (I 2), .d (I 2), .d (.sl []), .d (I 0), .d (.sl []), .loc 7 0 1 81, .sl 42 [] .full, .d (.sl [])])), true)]) (by kernel_rfl) (.cons (prB_of rfl) <| .cons (prB_of rfl) <| .nil)
abbrev P111 (M : Mc) (R Ra Rb : List (List D)) (gk k0 : Int) (G G2 : D) : Prop := CV VP 21 [.ptr 2 0] [pM M, pN M, [.d (.sl R), .d (I k0)], jZ, jZ] = some ⟨.tup [.agg (jA0 Ra G), .agg (jB0 Rb G2)], [pM M, pN M, [.d (.sl R), .d (I gk)], jZ, jZ], [], 0⟩
abbrev P129 (Ra : List (List D)) (ri f h a0 b0 a1 b1 p0 p1 l0 l1 s0 s1 : Int) (G : D) (SA DD : List (List D)) : Prop := CV VP 43 [.agg (jA0 Ra G), .d (I 2), .d (I ri), (bxJ f h a0 b0 a1 b1 p0 p1 l0 l1 s0 s1)] [] = some ⟨.tup [.agg (jA1 Ra G SA), .d (.sl DD), .d (I 0)], [], [], 0⟩
abbrev S37 (M : Mc) (R : List (List D)) (k0 : Int) : St := ⟨.ptr 2 0 :: List.replicate 107 .any, [pM M, pN M, [.d (.sl R), .d (I k0)]], [], 0, 3, 0⟩
abbrev N37 (M : Mc) (R Ra Rb : List (List D)) (gk : Int) (G G2 : D) (SA DD : List (List D)) (c : VCode) (Q : VExit → St → Prop) : Prop := ∀ st, Seg (keepK vf12K1 0) 108 [.ptr 3 0, .ptr 4 0, .ptr 5 0, .ptr 6 0, .d (.sl DD), .d (I 0)] [pM M, pN M, [.d (.sl R), .d (I gk)], jZ, jZ, jA1 Ra G SA, jB0 Rb G2] [] 0 3 st → RX VP c st Q
abbrev shA0 (f h a0 b0 a1 b1 p0 p1 l0 l1 s0 s1 : Int) (ro rp rq : List D) (rt0 rt1 : D) : List (List D) := [[I 2, .lit (.string ⟨#[103, 111, 108, 100]⟩), .sl [[I f, U h, U a0, I f, U h, U b0, I f, U h, U a1, I f, U h, U b1, I p0, I p1, I l0, I l1, I s0, I s1]]]]
theorem rA_0 (M : Mc) (R : List (List D)) (gk k0 f h a0 b0 a1 b1 p0 p1 l0 l1 s0 s1 : Int) (G G2 : D) (Rb SA DD : List (List D)) (ro rp rq : List D) (rt0 rt1 : D)
    (H111 : P111 M R (shA0 f h a0 b0 a1 b1 p0 p1 l0 l1 s0 s1 ro rp rq rt0 rt1) Rb gk k0 G G2) (H129 : P129 (shA0 f h a0 b0 a1 b1 p0 p1 l0 l1 s0 s1 ro rp rq rt0 rt1) 0 f h a0 b0 a1 b1 p0 p1 l0 l1 s0 s1 G SA DD) {c : VCode} {Q : VExit → St → Prop}
    (hnext : N37 M R (shA0 f h a0 b0 a1 b1 p0 p1 l0 l1 s0 s1 ro rp rq rt0 rt1) Rb gk G G2 SA DD c Q) : RX VP (seqL ((flat vf12.body).take 6)) (S37 M R k0) (thn VP c Q) :=
  RX_segK (cA_ok vft_ok (AR1 R gk (shA0 f h a0 b0 a1 b1 p0 p1 l0 l1 s0 s1 ro rp rq rt0 rt1) G G2 Rb SA DD) 400 60) 400 [] [] (ob := [(prB (P129 (shA0 f h a0 b0 a1 b1 p0 p1 l0 l1 s0 s1 ro rp rq rt0 rt1) 0 f h a0 b0 a1 b1 p0 p1 l0 l1 s0 s1 G SA DD), true), (prB (P111 M R (shA0 f h a0 b0 a1 b1 p0 p1 l0 l1 s0 s1 ro rp rq rt0 rt1) Rb gk k0 G G2), true)]) (by kernel_rfl) (.cons (prB_of H129) <| .cons (prB_of H111) .nil) hnext
abbrev shA1 (f h a0 b0 a1 b1 p0 p1 l0 l1 s0 s1 : Int) (ro rp rq : List D) (rt0 rt1 : D) : List (List D) := [[I 2, .lit (.string ⟨#[103, 111, 108, 100]⟩), .sl [[I f, U h, U a0, I f, U h, U b0, I f, U h, U a1, I f, U h, U b1, I p0, I p1, I l0, I l1, I s0, I s1]]], [I 1, rt0, rt1]]
theorem rA_1 (M : Mc) (R : List (List D)) (gk k0 f h a0 b0 a1 b1 p0 p1 l0 l1 s0 s1 : Int) (G G2 : D) (Rb SA DD : List (List D)) (ro rp rq : List D) (rt0 rt1 : D)
    (H111 : P111 M R (shA1 f h a0 b0 a1 b1 p0 p1 l0 l1 s0 s1 ro rp rq rt0 rt1) Rb gk k0 G G2) (H129 : P129 (shA1 f h a0 b0 a1 b1 p0 p1 l0 l1 s0 s1 ro rp rq rt0 rt1) 0 f h a0 b0 a1 b1 p0 p1 l0 l1 s0 s1 G SA DD) {c : VCode} {Q : VExit → St → Prop}
    (hnext : N37 M R (shA1 f h a0 b0 a1 b1 p0 p1 l0 l1 s0 s1 ro rp rq rt0 rt1) Rb gk G G2 SA DD c Q) : RX VP (seqL ((flat vf12.body).take 6)) (S37 M R k0) (thn VP c Q) :=
  RX_segK (cA_ok vft_ok (AR1 R gk (shA1 f h a0 b0 a1 b1 p0 p1 l0 l1 s0 s1 ro rp rq rt0 rt1) G G2 Rb SA DD) 400 60) 400 [] [] (ob := [(prB (P129 (shA1 f h a0 b0 a1 b1 p0 p1 l0 l1 s0 s1 ro rp rq rt0 rt1) 0 f h a0 b0 a1 b1 p0 p1 l0 l1 s0 s1 G SA DD), true), (prB (P111 M R (shA1 f h a0 b0 a1 b1 p0 p1 l0 l1 s0 s1 ro rp rq rt0 rt1) Rb gk k0 G G2), true)]) (by kernel_rfl) (.cons (prB_of H129) <| .cons (prB_of H111) .nil) hnext
abbrev shA2 (f h a0 b0 a1 b1 p0 p1 l0 l1 s0 s1 : Int) (ro rp rq : List D) (rt0 rt1 : D) : List (List D) := [[I 2, .lit (.string ⟨#[103, 111, 108, 100]⟩), .sl [[I f, U h, U a0, I f, U h, U b0, I f, U h, U a1, I f, U h, U b1, I p0, I p1, I l0, I l1, I s0, I s1], rq]]]
theorem rA_2 (M : Mc) (R : List (List D)) (gk k0 f h a0 b0 a1 b1 p0 p1 l0 l1 s0 s1 : Int) (G G2 : D) (Rb SA DD : List (List D)) (ro rp rq : List D) (rt0 rt1 : D)
    (H111 : P111 M R (shA2 f h a0 b0 a1 b1 p0 p1 l0 l1 s0 s1 ro rp rq rt0 rt1) Rb gk k0 G G2) (H129 : P129 (shA2 f h a0 b0 a1 b1 p0 p1 l0 l1 s0 s1 ro rp rq rt0 rt1) 0 f h a0 b0 a1 b1 p0 p1 l0 l1 s0 s1 G SA DD) {c : VCode} {Q : VExit → St → Prop}
    (hnext : N37 M R (shA2 f h a0 b0 a1 b1 p0 p1 l0 l1 s0 s1 ro rp rq rt0 rt1) Rb gk G G2 SA DD c Q) : RX VP (seqL ((flat vf12.body).take 6)) (S37 M R k0) (thn VP c Q) :=
  RX_segK (cA_ok vft_ok (AR1 R gk (shA2 f h a0 b0 a1 b1 p0 p1 l0 l1 s0 s1 ro rp rq rt0 rt1) G G2 Rb SA DD) 400 60) 400 [] [] (ob := [(prB (P129 (shA2 f h a0 b0 a1 b1 p0 p1 l0 l1 s0 s1 ro rp rq rt0 rt1) 0 f h a0 b0 a1 b1 p0 p1 l0 l1 s0 s1 G SA DD), true), (prB (P111 M R (shA2 f h a0 b0 a1 b1 p0 p1 l0 l1 s0 s1 ro rp rq rt0 rt1) Rb gk k0 G G2), true)]) (by kernel_rfl) (.cons (prB_of H129) <| .cons (prB_of H111) .nil) hnext
abbrev shA3 (f h a0 b0 a1 b1 p0 p1 l0 l1 s0 s1 : Int) (ro rp rq : List D) (rt0 rt1 : D) : List (List D) := [[I 2, .lit (.string ⟨#[103, 111, 108, 100]⟩), .sl [[I f, U h, U a0, I f, U h, U b0, I f, U h, U a1, I f, U h, U b1, I p0, I p1, I l0, I l1, I s0, I s1], rq]], [I 1, rt0, rt1]]
theorem rA_3 (M : Mc) (R : List (List D)) (gk k0 f h a0 b0 a1 b1 p0 p1 l0 l1 s0 s1 : Int) (G G2 : D) (Rb SA DD : List (List D)) (ro rp rq : List D) (rt0 rt1 : D)
    (H111 : P111 M R (shA3 f h a0 b0 a1 b1 p0 p1 l0 l1 s0 s1 ro rp rq rt0 rt1) Rb gk k0 G G2) (H129 : P129 (shA3 f h a0 b0 a1 b1 p0 p1 l0 l1 s0 s1 ro rp rq rt0 rt1) 0 f h a0 b0 a1 b1 p0 p1 l0 l1 s0 s1 G SA DD) {c : VCode} {Q : VExit → St → Prop}
    (hnext : N37 M R (shA3 f h a0 b0 a1 b1 p0 p1 l0 l1 s0 s1 ro rp rq rt0 rt1) Rb gk G G2 SA DD c Q) : RX VP (seqL ((flat vf12.body).take 6)) (S37 M R k0) (thn VP c Q) :=
  RX_segK (cA_ok vft_ok (AR1 R gk (shA3 f h a0 b0 a1 b1 p0 p1 l0 l1 s0 s1 ro rp rq rt0 rt1) G G2 Rb SA DD) 400 60) 400 [] [] (ob := [(prB (P129 (shA3 f h a0 b0 a1 b1 p0 p1 l0 l1 s0 s1 ro rp rq rt0 rt1) 0 f h a0 b0 a1 b1 p0 p1 l0 l1 s0 s1 G SA DD), true), (prB (P111 M R (shA3 f h a0 b0 a1 b1 p0 p1 l0 l1 s0 s1 ro rp rq rt0 rt1) Rb gk k0 G G2), true)]) (by kernel_rfl) (.cons (prB_of H129) <| .cons (prB_of H111) .nil) hnext
abbrev shA4 (f h a0 b0 a1 b1 p0 p1 l0 l1 s0 s1 : Int) (ro rp rq : List D) (rt0 rt1 : D) : List (List D) := [ro, [I 2, .lit (.string ⟨#[103, 111, 108, 100]⟩), .sl [[I f, U h, U a0, I f, U h, U b0, I f, U h, U a1, I f, U h, U b1, I p0, I p1, I l0, I l1, I s0, I s1]]]]
theorem rA_4 (M : Mc) (R : List (List D)) (gk k0 f h a0 b0 a1 b1 p0 p1 l0 l1 s0 s1 : Int) (G G2 : D) (Rb SA DD : List (List D)) (ro rp rq : List D) (rt0 rt1 : D)
    (H111 : P111 M R (shA4 f h a0 b0 a1 b1 p0 p1 l0 l1 s0 s1 ro rp rq rt0 rt1) Rb gk k0 G G2) (H129 : P129 (shA4 f h a0 b0 a1 b1 p0 p1 l0 l1 s0 s1 ro rp rq rt0 rt1) 1 f h a0 b0 a1 b1 p0 p1 l0 l1 s0 s1 G SA DD) {c : VCode} {Q : VExit → St → Prop}
    (hnext : N37 M R (shA4 f h a0 b0 a1 b1 p0 p1 l0 l1 s0 s1 ro rp rq rt0 rt1) Rb gk G G2 SA DD c Q) : RX VP (seqL ((flat vf12.body).take 6)) (S37 M R k0) (thn VP c Q) :=
  RX_segK (cA_ok vft_ok (AR1 R gk (shA4 f h a0 b0 a1 b1 p0 p1 l0 l1 s0 s1 ro rp rq rt0 rt1) G G2 Rb SA DD) 400 60) 400 [] [] (ob := [(prB (P129 (shA4 f h a0 b0 a1 b1 p0 p1 l0 l1 s0 s1 ro rp rq rt0 rt1) 1 f h a0 b0 a1 b1 p0 p1 l0 l1 s0 s1 G SA DD), true), (prB (P111 M R (shA4 f h a0 b0 a1 b1 p0 p1 l0 l1 s0 s1 ro rp rq rt0 rt1) Rb gk k0 G G2), true)]) (by kernel_rfl) (.cons (prB_of H129) <| .cons (prB_of H111) .nil) hnext
abbrev shA5 (f h a0 b0 a1 b1 p0 p1 l0 l1 s0 s1 : Int) (ro rp rq : List D) (rt0 rt1 : D) : List (List D) := [ro, [I 2, .lit (.string ⟨#[103, 111, 108, 100]⟩), .sl [[I f, U h, U a0, I f, U h, U b0, I f, U h, U a1, I f, U h, U b1, I p0, I p1, I l0, I l1, I s0, I s1]]], [I 1, rt0, rt1]]
theorem rA_5 (M : Mc) (R : List (List D)) (gk k0 f h a0 b0 a1 b1 p0 p1 l0 l1 s0 s1 : Int) (G G2 : D) (Rb SA DD : List (List D)) (ro rp rq : List D) (rt0 rt1 : D)
    (H111 : P111 M R (shA5 f h a0 b0 a1 b1 p0 p1 l0 l1 s0 s1 ro rp rq rt0 rt1) Rb gk k0 G G2) (H129 : P129 (shA5 f h a0 b0 a1 b1 p0 p1 l0 l1 s0 s1 ro rp rq rt0 rt1) 1 f h a0 b0 a1 b1 p0 p1 l0 l1 s0 s1 G SA DD) {c : VCode} {Q : VExit → St → Prop}
    (hnext : N37 M R (shA5 f h a0 b0 a1 b1 p0 p1 l0 l1 s0 s1 ro rp rq rt0 rt1) Rb gk G G2 SA DD c Q) : RX VP (seqL ((flat vf12.body).take 6)) (S37 M R k0) (thn VP c Q) :=
  RX_segK (cA_ok vft_ok (AR1 R gk (shA5 f h a0 b0 a1 b1 p0 p1 l0 l1 s0 s1 ro rp rq rt0 rt1) G G2 Rb SA DD) 400 60) 400 [] [] (ob := [(prB (P129 (shA5 f h a0 b0 a1 b1 p0 p1 l0 l1 s0 s1 ro rp rq rt0 rt1) 1 f h a0 b0 a1 b1 p0 p1 l0 l1 s0 s1 G SA DD), true), (prB (P111 M R (shA5 f h a0 b0 a1 b1 p0 p1 l0 l1 s0 s1 ro rp rq rt0 rt1) Rb gk k0 G G2), true)]) (by kernel_rfl) (.cons (prB_of H129) <| .cons (prB_of H111) .nil) hnext
abbrev shA6 (f h a0 b0 a1 b1 p0 p1 l0 l1 s0 s1 : Int) (ro rp rq : List D) (rt0 rt1 : D) : List (List D) := [ro, [I 2, .lit (.string ⟨#[103, 111, 108, 100]⟩), .sl [[I f, U h, U a0, I f, U h, U b0, I f, U h, U a1, I f, U h, U b1, I p0, I p1, I l0, I l1, I s0, I s1], rq]]]
theorem rA_6 (M : Mc) (R : List (List D)) (gk k0 f h a0 b0 a1 b1 p0 p1 l0 l1 s0 s1 : Int) (G G2 : D) (Rb SA DD : List (List D)) (ro rp rq : List D) (rt0 rt1 : D)
    (H111 : P111 M R (shA6 f h a0 b0 a1 b1 p0 p1 l0 l1 s0 s1 ro rp rq rt0 rt1) Rb gk k0 G G2) (H129 : P129 (shA6 f h a0 b0 a1 b1 p0 p1 l0 l1 s0 s1 ro rp rq rt0 rt1) 1 f h a0 b0 a1 b1 p0 p1 l0 l1 s0 s1 G SA DD) {c : VCode} {Q : VExit → St → Prop}
    (hnext : N37 M R (shA6 f h a0 b0 a1 b1 p0 p1 l0 l1 s0 s1 ro rp rq rt0 rt1) Rb gk G G2 SA DD c Q) : RX VP (seqL ((flat vf12.body).take 6)) (S37 M R k0) (thn VP c Q) :=
  RX_segK (cA_ok vft_ok (AR1 R gk (shA6 f h a0 b0 a1 b1 p0 p1 l0 l1 s0 s1 ro rp rq rt0 rt1) G G2 Rb SA DD) 400 60) 400 [] [] (ob := [(prB (P129 (shA6 f h a0 b0 a1 b1 p0 p1 l0 l1 s0 s1 ro rp rq rt0 rt1) 1 f h a0 b0 a1 b1 p0 p1 l0 l1 s0 s1 G SA DD), true), (prB (P111 M R (shA6 f h a0 b0 a1 b1 p0 p1 l0 l1 s0 s1 ro rp rq rt0 rt1) Rb gk k0 G G2), true)]) (by kernel_rfl) (.cons (prB_of H129) <| .cons (prB_of H111) .nil) hnext
abbrev shA7 (f h a0 b0 a1 b1 p0 p1 l0 l1 s0 s1 : Int) (ro rp rq : List D) (rt0 rt1 : D) : List (List D) := [ro, [I 2, .lit (.string ⟨#[103, 111, 108, 100]⟩), .sl [[I f, U h, U a0, I f, U h, U b0, I f, U h, U a1, I f, U h, U b1, I p0, I p1, I l0, I l1, I s0, I s1], rq]], [I 1, rt0, rt1]]
theorem rA_7 (M : Mc) (R : List (List D)) (gk k0 f h a0 b0 a1 b1 p0 p1 l0 l1 s0 s1 : Int) (G G2 : D) (Rb SA DD : List (List D)) (ro rp rq : List D) (rt0 rt1 : D)
    (H111 : P111 M R (shA7 f h a0 b0 a1 b1 p0 p1 l0 l1 s0 s1 ro rp rq rt0 rt1) Rb gk k0 G G2) (H129 : P129 (shA7 f h a0 b0 a1 b1 p0 p1 l0 l1 s0 s1 ro rp rq rt0 rt1) 1 f h a0 b0 a1 b1 p0 p1 l0 l1 s0 s1 G SA DD) {c : VCode} {Q : VExit → St → Prop}
    (hnext : N37 M R (shA7 f h a0 b0 a1 b1 p0 p1 l0 l1 s0 s1 ro rp rq rt0 rt1) Rb gk G G2 SA DD c Q) : RX VP (seqL ((flat vf12.body).take 6)) (S37 M R k0) (thn VP c Q) :=
  RX_segK (cA_ok vft_ok (AR1 R gk (shA7 f h a0 b0 a1 b1 p0 p1 l0 l1 s0 s1 ro rp rq rt0 rt1) G G2 Rb SA DD) 400 60) 400 [] [] (ob := [(prB (P129 (shA7 f h a0 b0 a1 b1 p0 p1 l0 l1 s0 s1 ro rp rq rt0 rt1) 1 f h a0 b0 a1 b1 p0 p1 l0 l1 s0 s1 G SA DD), true), (prB (P111 M R (shA7 f h a0 b0 a1 b1 p0 p1 l0 l1 s0 s1 ro rp rq rt0 rt1) Rb gk k0 G G2), true)]) (by kernel_rfl) (.cons (prB_of H129) <| .cons (prB_of H111) .nil) hnext
abbrev shA8 (f h a0 b0 a1 b1 p0 p1 l0 l1 s0 s1 : Int) (ro rp rq : List D) (rt0 rt1 : D) : List (List D) := [ro, rp, [I 2, .lit (.string ⟨#[103, 111, 108, 100]⟩), .sl [[I f, U h, U a0, I f, U h, U b0, I f, U h, U a1, I f, U h, U b1, I p0, I p1, I l0, I l1, I s0, I s1]]]]
theorem rA_8 (M : Mc) (R : List (List D)) (gk k0 f h a0 b0 a1 b1 p0 p1 l0 l1 s0 s1 : Int) (G G2 : D) (Rb SA DD : List (List D)) (ro rp rq : List D) (rt0 rt1 : D)
    (H111 : P111 M R (shA8 f h a0 b0 a1 b1 p0 p1 l0 l1 s0 s1 ro rp rq rt0 rt1) Rb gk k0 G G2) (H129 : P129 (shA8 f h a0 b0 a1 b1 p0 p1 l0 l1 s0 s1 ro rp rq rt0 rt1) 2 f h a0 b0 a1 b1 p0 p1 l0 l1 s0 s1 G SA DD) {c : VCode} {Q : VExit → St → Prop}
    (hnext : N37 M R (shA8 f h a0 b0 a1 b1 p0 p1 l0 l1 s0 s1 ro rp rq rt0 rt1) Rb gk G G2 SA DD c Q) : RX VP (seqL ((flat vf12.body).take 6)) (S37 M R k0) (thn VP c Q) :=
  RX_segK (cA_ok vft_ok (AR1 R gk (shA8 f h a0 b0 a1 b1 p0 p1 l0 l1 s0 s1 ro rp rq rt0 rt1) G G2 Rb SA DD) 400 60) 400 [] [] (ob := [(prB (P129 (shA8 f h a0 b0 a1 b1 p0 p1 l0 l1 s0 s1 ro rp rq rt0 rt1) 2 f h a0 b0 a1 b1 p0 p1 l0 l1 s0 s1 G SA DD), true), (prB (P111 M R (shA8 f h a0 b0 a1 b1 p0 p1 l0 l1 s0 s1 ro rp rq rt0 rt1) Rb gk k0 G G2), true)]) (by kernel_rfl) (.cons (prB_of H129) <| .cons (prB_of H111) .nil) hnext
abbrev shA9 (f h a0 b0 a1 b1 p0 p1 l0 l1 s0 s1 : Int) (ro rp rq : List D) (rt0 rt1 : D) : List (List D) := [ro, rp, [I 2, .lit (.string ⟨#[103, 111, 108, 100]⟩), .sl [[I f, U h, U a0, I f, U h, U b0, I f, U h, U a1, I f, U h, U b1, I p0, I p1, I l0, I l1, I s0, I s1]]], [I 1, rt0, rt1]]
theorem rA_9 (M : Mc) (R : List (List D)) (gk k0 f h a0 b0 a1 b1 p0 p1 l0 l1 s0 s1 : Int) (G G2 : D) (Rb SA DD : List (List D)) (ro rp rq : List D) (rt0 rt1 : D)
    (H111 : P111 M R (shA9 f h a0 b0 a1 b1 p0 p1 l0 l1 s0 s1 ro rp rq rt0 rt1) Rb gk k0 G G2) (H129 : P129 (shA9 f h a0 b0 a1 b1 p0 p1 l0 l1 s0 s1 ro rp rq rt0 rt1) 2 f h a0 b0 a1 b1 p0 p1 l0 l1 s0 s1 G SA DD) {c : VCode} {Q : VExit → St → Prop}
    (hnext : N37 M R (shA9 f h a0 b0 a1 b1 p0 p1 l0 l1 s0 s1 ro rp rq rt0 rt1) Rb gk G G2 SA DD c Q) : RX VP (seqL ((flat vf12.body).take 6)) (S37 M R k0) (thn VP c Q) :=
  RX_segK (cA_ok vft_ok (AR1 R gk (shA9 f h a0 b0 a1 b1 p0 p1 l0 l1 s0 s1 ro rp rq rt0 rt1) G G2 Rb SA DD) 400 60) 400 [] [] (ob := [(prB (P129 (shA9 f h a0 b0 a1 b1 p0 p1 l0 l1 s0 s1 ro rp rq rt0 rt1) 2 f h a0 b0 a1 b1 p0 p1 l0 l1 s0 s1 G SA DD), true), (prB (P111 M R (shA9 f h a0 b0 a1 b1 p0 p1 l0 l1 s0 s1 ro rp rq rt0 rt1) Rb gk k0 G G2), true)]) (by kernel_rfl) (.cons (prB_of H129) <| .cons (prB_of H111) .nil) hnext
abbrev shA10 (f h a0 b0 a1 b1 p0 p1 l0 l1 s0 s1 : Int) (ro rp rq : List D) (rt0 rt1 : D) : List (List D) := [ro, rp, [I 2, .lit (.string ⟨#[103, 111, 108, 100]⟩), .sl [[I f, U h, U a0, I f, U h, U b0, I f, U h, U a1, I f, U h, U b1, I p0, I p1, I l0, I l1, I s0, I s1], rq]]]
theorem rA_10 (M : Mc) (R : List (List D)) (gk k0 f h a0 b0 a1 b1 p0 p1 l0 l1 s0 s1 : Int) (G G2 : D) (Rb SA DD : List (List D)) (ro rp rq : List D) (rt0 rt1 : D)
    (H111 : P111 M R (shA10 f h a0 b0 a1 b1 p0 p1 l0 l1 s0 s1 ro rp rq rt0 rt1) Rb gk k0 G G2) (H129 : P129 (shA10 f h a0 b0 a1 b1 p0 p1 l0 l1 s0 s1 ro rp rq rt0 rt1) 2 f h a0 b0 a1 b1 p0 p1 l0 l1 s0 s1 G SA DD) {c : VCode} {Q : VExit → St → Prop}
    (hnext : N37 M R (shA10 f h a0 b0 a1 b1 p0 p1 l0 l1 s0 s1 ro rp rq rt0 rt1) Rb gk G G2 SA DD c Q) : RX VP (seqL ((flat vf12.body).take 6)) (S37 M R k0) (thn VP c Q) :=
  RX_segK (cA_ok vft_ok (AR1 R gk (shA10 f h a0 b0 a1 b1 p0 p1 l0 l1 s0 s1 ro rp rq rt0 rt1) G G2 Rb SA DD) 400 60) 400 [] [] (ob := [(prB (P129 (shA10 f h a0 b0 a1 b1 p0 p1 l0 l1 s0 s1 ro rp rq rt0 rt1) 2 f h a0 b0 a1 b1 p0 p1 l0 l1 s0 s1 G SA DD), true), (prB (P111 M R (shA10 f h a0 b0 a1 b1 p0 p1 l0 l1 s0 s1 ro rp rq rt0 rt1) Rb gk k0 G G2), true)]) (by kernel_rfl) (.cons (prB_of H129) <| .cons (prB_of H111) .nil) hnext
abbrev shA11 (f h a0 b0 a1 b1 p0 p1 l0 l1 s0 s1 : Int) (ro rp rq : List D) (rt0 rt1 : D) : List (List D) := [ro, rp, [I 2, .lit (.string ⟨#[103, 111, 108, 100]⟩), .sl [[I f, U h, U a0, I f, U h, U b0, I f, U h, U a1, I f, U h, U b1, I p0, I p1, I l0, I l1, I s0, I s1], rq]], [I 1, rt0, rt1]]
theorem rA_11 (M : Mc) (R : List (List D)) (gk k0 f h a0 b0 a1 b1 p0 p1 l0 l1 s0 s1 : Int) (G G2 : D) (Rb SA DD : List (List D)) (ro rp rq : List D) (rt0 rt1 : D)
    (H111 : P111 M R (shA11 f h a0 b0 a1 b1 p0 p1 l0 l1 s0 s1 ro rp rq rt0 rt1) Rb gk k0 G G2) (H129 : P129 (shA11 f h a0 b0 a1 b1 p0 p1 l0 l1 s0 s1 ro rp rq rt0 rt1) 2 f h a0 b0 a1 b1 p0 p1 l0 l1 s0 s1 G SA DD) {c : VCode} {Q : VExit → St → Prop}
    (hnext : N37 M R (shA11 f h a0 b0 a1 b1 p0 p1 l0 l1 s0 s1 ro rp rq rt0 rt1) Rb gk G G2 SA DD c Q) : RX VP (seqL ((flat vf12.body).take 6)) (S37 M R k0) (thn VP c Q) :=
  RX_segK (cA_ok vft_ok (AR1 R gk (shA11 f h a0 b0 a1 b1 p0 p1 l0 l1 s0 s1 ro rp rq rt0 rt1) G G2 Rb SA DD) 400 60) 400 [] [] (ob := [(prB (P129 (shA11 f h a0 b0 a1 b1 p0 p1 l0 l1 s0 s1 ro rp rq rt0 rt1) 2 f h a0 b0 a1 b1 p0 p1 l0 l1 s0 s1 G SA DD), true), (prB (P111 M R (shA11 f h a0 b0 a1 b1 p0 p1 l0 l1 s0 s1 ro rp rq rt0 rt1) Rb gk k0 G G2), true)]) (by kernel_rfl) (.cons (prB_of H129) <| .cons (prB_of H111) .nil) hnext
abbrev rdV0 (Ra Rb : List (List D)) (ri f h a0 b0 a1 b1 p0 p1 l0 l1 s0 s1 : Int) : V := .tup [.agg [.d (I 0), .d (I 1), .d (I 1), .d (I 2), .d (.sl Ra), .d (.sl [[I 31]]), .d (I 0), .d (I 5), .d (I 2), .d (I 1), .d (.sl []), .d (I 2), .d (I 2), .d (.sl []), .d (I 0), .d (.sl []), .d (.sl [[I 1003, I 2003, B true, I 1, I 1, I 2, I 6, I 2, .sl y37_14, I 6, I 3, .sl y37_14, I 6, I 4, .sl y37_14, I 2, I 4, .sl [], I 2, I 1048580, .sl [], I 3, I 0, .sl y37_6, I 3, I 0, .sl y37_18, I 1, I 0, I 1, I 0, I 3, I 0, .sl y37_6, I 2, I 1, I 2, I 2, I 4, .sl [], I 2, I 5, .sl [], I 0, I 0, I ri, I f, U h, U a0, I f, U h, U b0, I f, U h, U a1, I f, U h, U b1, I p0, I p1, I l0, I l1, I s0, I s1, I 0, I 0, .sl [], .sl [], I (-1), I 0, I 0, .sl [], I 0, I 0, I 0, I 0, I 0, B false, I 0, B false, I 0]]), .sl 42 [] .full, .d (.sl [])], .agg [.d (I 1), .d (I 0), .d (I 2), .d (I 1), .d (.sl Rb), .d (.sl [[I 31]]), .d (I 0), .d (I 5), .d (I 2), .d (I 1048577), .d (.sl []), .d (I 2), .d (I 1048578), .d (.sl []), .d (I 0), .d (.sl [[I 2003, I 1003, I 1, I 3, I 0, .sl y37_6, I 3, I 0, .sl y37_18, I 2, I 1048580, .sl [], I 2, I 4, .sl [], I 6, I 2, .sl y37_14, I 6, I 4, .sl y37_14, I 6, I 3, .sl y37_14, I 0, B false]]), .sl 81 [] .full, .sl 42 [] .full, .d (.sl [])], .d (I 1003), .d (B true)]
theorem rB_0 (M : Mc) (R Ra Rb : List (List D)) (gk ri f h a0 b0 a1 b1 p0 p1 l0 l1 s0 s1 : Int) : RX VP (seqL ((flat vf12.body).drop 6)) ⟨keepT vf12K1 [.ptr 3 0, .ptr 4 0, .ptr 5 0, .ptr 6 0, .d (.sl ddV0), .d (I 0)], [pM M, pN M, [.d (.sl R), .d (I gk)], jZ, jZ, jA1 Ra (.sl [[I 31]]) (saV0 ri f h a0 b0 a1 b1 p0 p1 l0 l1 s0 s1), jB0 Rb (.sl [[I 31]])], [], 0, 3, 0⟩ (retQ vf12 3 ⟨rdV0 Ra Rb ri f h a0 b0 a1 b1 p0 p1 l0 l1 s0 s1, [pM M, pN M, [.d (.sl R), .d (I gk)]], [], 0⟩) :=
  RX_end (cA_ok vft_ok noNat 400 60) 400 [] [] (ob := []) (by kernel_rfl) .nil
abbrev rdV1 (Ra Rb : List (List D)) (ri f h a0 b0 a1 b1 p0 p1 l0 l1 s0 s1 : Int) : V := .tup [.agg [.d (I 0), .d (I 1), .d (I 1), .d (I 2), .d (.sl Ra), .d (.sl [[I 31], [I 1024]]), .d (I 0), .d (I 5), .d (I 2), .d (I 1), .d (.sl []), .d (I 2), .d (I 2), .d (.sl []), .d (I 0), .d (.sl []), .d (.sl [[I 1003, I 2003, B true, I 1, I 1, I 2, I 6, I 2, .sl y37_14, I 6, I 3, .sl y37_14, I 6, I 4, .sl y37_14, I 2, I 4, .sl [], I 2, I 1048580, .sl [], I 3, I 0, .sl y37_8, I 3, I 0, .sl y37_18, I 1, I 0, I 1, I 0, I 3, I 0, .sl y37_8, I 2, I 1, I 2, I 2, I 4, .sl [], I 2, I 5, .sl [], I 0, I 0, I ri, I f, U h, U a0, I f, U h, U b0, I f, U h, U a1, I f, U h, U b1, I p0, I p1, I l0, I l1, I s0, I s1, I 0, I 0, .sl [], .sl [], I (-1), I 0, I 0, .sl [], I 0, I 0, I 0, I 0, I 0, B false, I 0, B false, I 0]]), .sl 42 [] .full, .d (.sl [])], .agg [.d (I 1), .d (I 0), .d (I 2), .d (I 1), .d (.sl Rb), .d (.sl [[I 31], [I 1024]]), .d (I 0), .d (I 5), .d (I 2), .d (I 1048577), .d (.sl []), .d (I 2), .d (I 1048578), .d (.sl []), .d (I 0), .d (.sl y37_19), .sl 81 [] .full, .sl 42 [] .full, .d (.sl [])], .d (I 1003), .d (B true)]
theorem rB_1 (M : Mc) (R Ra Rb : List (List D)) (gk ri f h a0 b0 a1 b1 p0 p1 l0 l1 s0 s1 : Int) : RX VP (seqL ((flat vf12.body).drop 6)) ⟨keepT vf12K1 [.ptr 3 0, .ptr 4 0, .ptr 5 0, .ptr 6 0, .d (.sl ddV1), .d (I 0)], [pM M, pN M, [.d (.sl R), .d (I gk)], jZ, jZ, jA1 Ra (.sl [[I 31], [I 1024]]) (saV1 ri f h a0 b0 a1 b1 p0 p1 l0 l1 s0 s1), jB0 Rb (.sl [[I 31], [I 1024]])], [], 0, 3, 0⟩ (retQ vf12 3 ⟨rdV1 Ra Rb ri f h a0 b0 a1 b1 p0 p1 l0 l1 s0 s1, [pM M, pN M, [.d (.sl R), .d (I gk)]], [], 0⟩) :=
  RX_end (cA_ok vft_ok noNat 400 60) 400 [] [] (ob := []) (by kernel_rfl) .nil
abbrev rdV2 (Ra Rb : List (List D)) (ri f h a0 b0 a1 b1 p0 p1 l0 l1 s0 s1 : Int) : V := .tup [.agg [.d (I 0), .d (I 1), .d (I 1), .d (I 2), .d (.sl Ra), .d (.sl [[I 31], [I 1024]]), .d (I 0), .d (I 6), .d (I 2), .d (I 1), .d (.sl []), .d (I 2), .d (I 2), .d (.sl []), .d (I 0), .d (.sl []), .d (.sl [[I 1003, I 2003, B true, I 1, I 1, I 2, I 6, I 2, .sl y37_20, I 6, I 3, .sl y37_20, I 6, I 4, .sl y37_20, I 2, I 4, .sl [], I 2, I 1048580, .sl [], I 3, I 0, .sl y37_21, I 3, I 0, .sl y37_22, I 1, I 0, I 1, I 0, I 3, I 0, .sl y37_21, I 2, I 1, I 2, I 2, I 4, .sl [], I 2, I 6, .sl [], I 0, I 0, I ri, I f, U h, U a0, I f, U h, U b0, I f, U h, U a1, I f, U h, U b1, I p0, I p1, I l0, I l1, I s0, I s1, I 0, I 0, .sl [], .sl [], I (-1), I 0, I 0, .sl [], I 0, I 0, I 0, I 0, I 1, B false, I 0, B false, I 0]]), .sl 42 [] .full, .d (.sl [])], .agg [.d (I 1), .d (I 0), .d (I 2), .d (I 1), .d (.sl Rb), .d (.sl [[I 1024], [I 31]]), .d (I 0), .d (I 5), .d (I 2), .d (I 1048577), .d (.sl []), .d (I 2), .d (I 1048578), .d (.sl []), .d (I 0), .d (.sl [[I 2003, I 1003, I 1, I 3, I 0, .sl y37_21, I 3, I 0, .sl y37_22, I 2, I 1048580, .sl [], I 2, I 4, .sl [], I 6, I 2, .sl y37_20, I 6, I 4, .sl y37_20, I 6, I 3, .sl y37_20, I 0, B false]]), .sl 81 [] .full, .sl 42 [] .full, .d (.sl [])], .d (I 1003), .d (B true)]
theorem rB_2 (M : Mc) (R Ra Rb : List (List D)) (gk ri f h a0 b0 a1 b1 p0 p1 l0 l1 s0 s1 : Int) : RX VP (seqL ((flat vf12.body).drop 6)) ⟨keepT vf12K1 [.ptr 3 0, .ptr 4 0, .ptr 5 0, .ptr 6 0, .d (.sl ddV1), .d (I 0)], [pM M, pN M, [.d (.sl R), .d (I gk)], jZ, jZ, jA1 Ra (.sl [[I 31], [I 1024]]) (saV1 ri f h a0 b0 a1 b1 p0 p1 l0 l1 s0 s1), jB0 Rb (.sl [[I 1024], [I 31]])], [], 0, 3, 0⟩ (retQ vf12 3 ⟨rdV2 Ra Rb ri f h a0 b0 a1 b1 p0 p1 l0 l1 s0 s1, [pM M, pN M, [.d (.sl R), .d (I gk)]], [], 0⟩) :=
  RX_end (cA_ok vft_ok noNat 400 60) 400 [] [] (ob := []) (by kernel_rfl) .nil
abbrev rdV3 (Ra Rb : List (List D)) (ri f h a0 b0 a1 b1 p0 p1 l0 l1 s0 s1 : Int) : V := .tup [.agg [.d (I 0), .d (I 1), .d (I 1), .d (I 2), .d (.sl Ra), .d (.sl [[I 1024], [I 31]]), .d (I 0), .d (I 6), .d (I 2), .d (I 1), .d (.sl []), .d (I 2), .d (I 2), .d (.sl []), .d (I 0), .d (.sl []), .d (.sl [[I 1003, I 2003, B true, I 1, I 1, I 2, I 6, I 2, .sl y37_20, I 6, I 3, .sl y37_20, I 6, I 4, .sl y37_20, I 2, I 4, .sl [], I 2, I 1048580, .sl [], I 3, I 0, .sl y37_23, I 3, I 0, .sl y37_18, I 1, I 0, I 1, I 0, I 3, I 0, .sl y37_23, I 2, I 1, I 2, I 2, I 4, .sl [], I 2, I 6, .sl [], I 0, I 0, I ri, I f, U h, U a0, I f, U h, U b0, I f, U h, U a1, I f, U h, U b1, I p0, I p1, I l0, I l1, I s0, I s1, I 0, I 0, .sl [], .sl [], I (-1), I 0, I 0, .sl [], I 0, I 0, I 0, I 0, I 1, B false, I 0, B false, I 0]]), .sl 42 [] .full, .d (.sl [])], .agg [.d (I 1), .d (I 0), .d (I 2), .d (I 1), .d (.sl Rb), .d (.sl [[I 31], [I 1024]]), .d (I 0), .d (I 5), .d (I 2), .d (I 1048577), .d (.sl []), .d (I 2), .d (I 1048578), .d (.sl []), .d (I 0), .d (.sl [[I 2003, I 1003, I 1, I 3, I 0, .sl y37_23, I 3, I 0, .sl y37_18, I 2, I 1048580, .sl [], I 2, I 4, .sl [], I 6, I 2, .sl y37_20, I 6, I 4, .sl y37_20, I 6, I 3, .sl y37_20, I 0, B false]]), .sl 81 [] .full, .sl 42 [] .full, .d (.sl [])], .d (I 1003), .d (B true)]
theorem rB_3 (M : Mc) (R Ra Rb : List (List D)) (gk ri f h a0 b0 a1 b1 p0 p1 l0 l1 s0 s1 : Int) : RX VP (seqL ((flat vf12.body).drop 6)) ⟨keepT vf12K1 [.ptr 3 0, .ptr 4 0, .ptr 5 0, .ptr 6 0, .d (.sl ddV2), .d (I 0)], [pM M, pN M, [.d (.sl R), .d (I gk)], jZ, jZ, jA1 Ra (.sl [[I 1024], [I 31]]) (saV2 ri f h a0 b0 a1 b1 p0 p1 l0 l1 s0 s1), jB0 Rb (.sl [[I 31], [I 1024]])], [], 0, 3, 0⟩ (retQ vf12 3 ⟨rdV3 Ra Rb ri f h a0 b0 a1 b1 p0 p1 l0 l1 s0 s1, [pM M, pN M, [.d (.sl R), .d (I gk)]], [], 0⟩) :=
  RX_end (cA_ok vft_ok noNat 400 60) 400 [] [] (ob := []) (by kernel_rfl) .nil
abbrev rdV4 (Ra Rb : List (List D)) (ri f h a0 b0 a1 b1 p0 p1 l0 l1 s0 s1 : Int) : V := .tup [.agg [.d (I 0), .d (I 1), .d (I 1), .d (I 2), .d (.sl Ra), .d (.sl [[I 31], [I 1024]]), .d (I 0), .d (I 5), .d (I 2), .d (I 1), .d (.sl []), .d (I 2), .d (I 2), .d (.sl []), .d (I 0), .d (.sl []), .d (.sl [[I 1003, I 2003, B true, I 1, I 1, I 2, I 6, I 2, .sl y37_14, I 6, I 3, .sl y37_14, I 6, I 4, .sl y37_14, I 2, I 4, .sl [], I 2, I 1048580, .sl [], I 3, I 0, .sl y37_8, I 3, I 0, .sl y37_18, I 1, I 0, I 1, I 0, I 3, I 0, .sl y37_8, I 2, I 1, I 2, I 2, I 4, .sl [], I 2, I 5, .sl [], I 0, I 0, I ri, I f, U h, U a0, I f, U h, U b0, I f, U h, U a1, I f, U h, U b1, I p0, I p1, I l0, I l1, I s0, I s1, I 0, I 0, .sl [], .sl [], I (-1), I 0, I 0, .sl [], I 0, I 0, I 0, I 0, I 0, B false, I 0, B false, I 0]]), .sl 42 [] .full, .d (.sl [])], .agg [.d (I 1), .d (I 0), .d (I 2), .d (I 1), .d (.sl Rb), .d (.sl [[I 31]]), .d (I 0), .d (I 5), .d (I 2), .d (I 1048577), .d (.sl []), .d (I 2), .d (I 1048578), .d (.sl []), .d (I 0), .d (.sl y37_19), .sl 81 [] .full, .sl 42 [] .full, .d (.sl [])], .d (I 1003), .d (B true)]
theorem rB_4 (M : Mc) (R Ra Rb : List (List D)) (gk ri f h a0 b0 a1 b1 p0 p1 l0 l1 s0 s1 : Int) : RX VP (seqL ((flat vf12.body).drop 6)) ⟨keepT vf12K1 [.ptr 3 0, .ptr 4 0, .ptr 5 0, .ptr 6 0, .d (.sl ddV1), .d (I 0)], [pM M, pN M, [.d (.sl R), .d (I gk)], jZ, jZ, jA1 Ra (.sl [[I 31], [I 1024]]) (saV1 ri f h a0 b0 a1 b1 p0 p1 l0 l1 s0 s1), jB0 Rb (.sl [[I 31]])], [], 0, 3, 0⟩ (retQ vf12 3 ⟨rdV4 Ra Rb ri f h a0 b0 a1 b1 p0 p1 l0 l1 s0 s1, [pM M, pN M, [.d (.sl R), .d (I gk)]], [], 0⟩) :=
  RX_end (cA_ok vft_ok noNat 400 60) 400 [] [] (ob := []) (by kernel_rfl) .nil
abbrev rdV5 (Ra Rb : List (List D)) (ri f h a0 b0 a1 b1 p0 p1 l0 l1 s0 s1 : Int) : V := .tup [.agg [.d (I 0), .d (I 1), .d (I 1), .d (I 2), .d (.sl Ra), .d (.sl [[I 1024]]), .d (I 0), .d (I 5), .d (I 2), .d (I 1), .d (.sl []), .d (I 2), .d (I 2), .d (.sl []), .d (I 0), .d (.sl []), .d (.sl [[I 1003, I 0, B true, I 1, I 1, I 2, I 0, I 0, .sl [], I 0, I 0, .sl [], I 0, I 0, .sl [], I 2, I 4, .sl [], I 0, I 0, .sl [], I 3, I 0, .sl y37_13, I 0, I 0, .sl [], I 1, I 0, I 1, I 0, I 3, I 0, .sl y37_13, I 2, I 1, I 2, I 2, I 4, .sl [], I 2, I 5, .sl [], I 0, I 0, I ri, I f, U h, U a0, I f, U h, U b0, I f, U h, U a1, I f, U h, U b1, I p0, I p1, I l0, I l1, I s0, I s1, I 0, I 0, .sl [], .sl [], I (-1), I 0, I 0, .sl [], I 0, I 0, I 0, I 0, I 0, B false, I 0, B false, I 0]]), .sl 42 [] .full, .d (.sl [])], .agg [.d (I 1), .d (I 0), .d (I 2), .d (I 1), .d (.sl Rb), .d (.sl [[I 31]]), .d (I 0), .d (I 2), .d (I 2), .d (I 1048577), .d (.sl []), .d (I 2), .d (I 1048578), .d (.sl []), .d (I 0), .d (.sl []), .d (.sl []), .d (.sl []), .d (.sl [])], .d (I 0), .d (B false)]
theorem rB_5 (M : Mc) (R Ra Rb : List (List D)) (gk ri f h a0 b0 a1 b1 p0 p1 l0 l1 s0 s1 : Int) : RX VP (seqL ((flat vf12.body).drop 6)) ⟨keepT vf12K1 [.ptr 3 0, .ptr 4 0, .ptr 5 0, .ptr 6 0, .d (.sl ddV3), .d (I 0)], [pM M, pN M, [.d (.sl R), .d (I gk)], jZ, jZ, jA1 Ra (.sl [[I 1024]]) (saV3 ri f h a0 b0 a1 b1 p0 p1 l0 l1 s0 s1), jB0 Rb (.sl [[I 31]])], [], 0, 3, 0⟩ (retQ vf12 3 ⟨rdV5 Ra Rb ri f h a0 b0 a1 b1 p0 p1 l0 l1 s0 s1, [pM M, pN M, [.d (.sl R), .d (I gk)]], [], 0⟩) :=
  RX_end (cA_ok vft_ok noNat 400 60) 400 [] [] (ob := []) (by kernel_rfl) .nil
theorem seg_loopB {keep : List Bool} {b d : VCode} {id N ba : Nat} {vs : List V} {bl : List (List V)} {lv : List Nat} {gn : Nat} {st : St} {Q : VExit → St → Prop} (hs : Seg (keepK keep 0) N vs bl lv gn ba st) (hk : keep.length = N)
    (hf : forget keep (keepT keep vs) = keepT keep vs) (h : RX VP (.seq (.block id (.loop keep b)) d) ⟨keepT keep vs, bl, lv, gn, ba, 0⟩ Q) : RX VP (.seq (.block id (.loop keep b)) d) st Q := by
  have ht : forget keep st.tmps = keepT keep vs := (hs.at (n := 0) hk).tmps
  have hh : ∀ k, st.head keep k = St.head keep k ⟨keepT keep vs, bl, lv, gn, ba, 0⟩ := by
    intro k
    obtain ⟨ts, bs, l, g, ba, de⟩ := st
    obtain ⟨_, _, h1, h2, h3, h4, h5⟩ := hs
    simp only at h1 h2 h3 h4 h5 ht
    subst h1 h2 h3 h4 h5
    simp only [St.head, ht, hf]
  have e1 : ∀ C n k, vloop C n keep b k st = vloop C n keep b k ⟨keepT keep vs, bl, lv, gn, ba, 0⟩ := by
    intro C n k
    cases n with
    | zero => rfl
    | succ n => simp only [vloop, hh]
  have e2 : ∀ C n, vx C n (.loop keep b) st = vx C n (.loop keep b) ⟨keepT keep vs, bl, lv, gn, ba, 0⟩ := by
    intro C n
    cases n with
    | zero => rfl
    | succ n => simp only [vx, hs.blocks, e1]
  have e3 : ∀ C n, vx C n (.block id (.loop keep b)) st = vx C n (.block id (.loop keep b)) ⟨keepT keep vs, bl, lv, gn, ba, 0⟩ := by
    intro C n
    cases n with
    | zero => rfl
    | succ n => simp only [vx, e2]
  obtain ⟨e, s2, h1, h2⟩ := h
  refine ⟨e, s2, ?_, h2⟩
  obtain ⟨n, hn⟩ := X_iff.1 h1
  refine X_iff.2 ⟨n, ?_⟩
  rw [← hn]
  cases n with
  | zero => rfl
  | succ n => simp only [vx, e3]
theorem d37 : seqL ((flat vf12.body).drop 6) = .seq (.block 2 (.loop vf12K1 vf12L1)) (seqL ((flat vf12.body).drop 7)) := by kernel_rfl
theorem k37 : vf12K1.length = 108 := by kernel_rfl
theorem f37 (DD : List (List D)) : forget vf12K1 (keepT vf12K1 [.ptr 3 0, .ptr 4 0, .ptr 5 0, .ptr 6 0, .d (.sl DD), .d (I 0)]) = keepT vf12K1 [.ptr 3 0, .ptr 4 0, .ptr 5 0, .ptr 6 0, .d (.sl DD), .d (I 0)] := by kernel_rfl
theorem rd_join (M : Mc) (R Ra Rb : List (List D)) (gk k0 : Int) (G G2 : D) (SA DD : List (List D)) {ret : Ret}
    (hA : ∀ {c : VCode} {Q : VExit → St → Prop}, (∀ st, Seg (keepK vf12K1 0) 108 [.ptr 3 0, .ptr 4 0, .ptr 5 0, .ptr 6 0, .d (.sl DD), .d (I 0)] [pM M, pN M, [.d (.sl R), .d (I gk)], jZ, jZ, jA1 Ra G SA, jB0 Rb G2] [] 0 3 st → RX VP c st Q) → RX VP (seqL ((flat vf12.body).take 6)) ⟨.ptr 2 0 :: List.replicate 107 .any, [pM M, pN M, [.d (.sl R), .d (I k0)]], [], 0, 3, 0⟩ (thn VP c Q))
    (hB : RX VP (seqL ((flat vf12.body).drop 6)) ⟨keepT vf12K1 [.ptr 3 0, .ptr 4 0, .ptr 5 0, .ptr 6 0, .d (.sl DD), .d (I 0)], [pM M, pN M, [.d (.sl R), .d (I gk)], jZ, jZ, jA1 Ra G SA, jB0 Rb G2], [], 0, 3, 0⟩ (retQ vf12 3 ret)) : CV VP 12 [.ptr 2 0] [pM M, pN M, [.d (.sl R), .d (I k0)]] = some ret := by
  refine CV_run (vf := vf12) rfl rfl ?_
  refine RX_cut 6 ?_
  refine hA fun st hs => ?_
  rw [d37] at hB ⊢
  exact seg_loopB hs k37 (f37 DD) hB
def rdV (n : Nat) (Ra Rb : List (List D)) (ri f h a0 b0 a1 b1 p0 p1 l0 l1 s0 s1 : Int) : V := match n with
  | 0 => rdV0 Ra Rb ri f h a0 b0 a1 b1 p0 p1 l0 l1 s0 s1
  | 1 => rdV1 Ra Rb ri f h a0 b0 a1 b1 p0 p1 l0 l1 s0 s1
  | 2 => rdV2 Ra Rb ri f h a0 b0 a1 b1 p0 p1 l0 l1 s0 s1
  | 3 => rdV3 Ra Rb ri f h a0 b0 a1 b1 p0 p1 l0 l1 s0 s1
  | 4 => rdV4 Ra Rb ri f h a0 b0 a1 b1 p0 p1 l0 l1 s0 s1
  | _ => rdV5 Ra Rb ri f h a0 b0 a1 b1 p0 p1 l0 l1 s0 s1
theorem gk_list {x : Nat} (hx : x < 12) : (grpA x = [31] ∧ grpB x = [31]) ∨ (grpA x = [31, 1024] ∧ grpB x = [31, 1024]) ∨ (grpA x = [31, 1024] ∧ grpB x = [1024, 31]) ∨ (grpA x = [1024, 31] ∧ grpB x = [31, 1024]) ∨ (grpA x = [31, 1024] ∧ grpB x = [31]) ∨ (grpA x = [1024] ∧ grpB x = [31]) := by
  match x, hx with
  | 0, _ => exact .inl ⟨rfl, rfl⟩
  | 1, _ => exact .inr (.inl ⟨rfl, rfl⟩)
  | 2, _ => exact .inr (.inr (.inl ⟨rfl, rfl⟩))
  | 3, _ => exact .inr (.inr (.inr (.inl ⟨rfl, rfl⟩)))
  | 4, _ => exact .inr (.inr (.inr (.inr (.inl ⟨rfl, rfl⟩))))
  | 5, _ => exact .inl ⟨rfl, rfl⟩
  | 6, _ => exact .inl ⟨rfl, rfl⟩
  | 7, _ => exact .inl ⟨rfl, rfl⟩
  | 8, _ => exact .inl ⟨rfl, rfl⟩
  | 9, _ => exact .inl ⟨rfl, rfl⟩
  | 10, _ => exact .inl ⟨rfl, rfl⟩
  | 11, _ => exact .inr (.inr (.inr (.inr (.inr (⟨rfl, rfl⟩)))))
theorem ctx2 (M : Mc) : CtxOk [pM M, pN M, [], jZ, jZ] 2 := CtxOk.of (by decide : 2 < 5) rfl rfl
theorem rd_one (M : Mc) (R Ra Rb : List (List D)) (gk k0 ri f h a0 b0 a1 b1 p0 p1 l0 l1 s0 s1 : Int)
    (hS : ∀ (G G2 : D) (SA DD : List (List D)), CV VP 21 [.ptr 2 0] [pM M, pN M, [.d (.sl R), .d (I k0)], jZ, jZ] = some ⟨.tup [.agg (jA0 Ra G), .agg (jB0 Rb G2)], [pM M, pN M, [.d (.sl R), .d (I gk)], jZ, jZ], [], 0⟩ → CV VP 43 [.agg (jA0 Ra G), .d (I 2), .d (I ri), (bxJ f h a0 b0 a1 b1 p0 p1 l0 l1 s0 s1)] [] = some ⟨.tup [.agg (jA1 Ra G SA), .d (.sl DD), .d (I 0)], [], [], 0⟩ → ∀ {c : VCode} {Q : VExit → St → Prop}, (∀ st, Seg (keepK vf12K1 0) 108 [.ptr 3 0, .ptr 4 0, .ptr 5 0, .ptr 6 0, .d (.sl DD), .d (I 0)] [pM M, pN M, [.d (.sl R), .d (I gk)], jZ, jZ, jA1 Ra G SA, jB0 Rb G2] [] 0 3 st → RX VP c st Q) → RX VP (seqL ((flat vf12.body).take 6)) ⟨.ptr 2 0 :: List.replicate 107 .any, [pM M, pN M, [.d (.sl R), .d (I k0)]], [], 0, 3, 0⟩ (thn VP c Q))
    {ga gb : List Int} (hg : (ga = [31] ∧ gb = [31]) ∨ (ga = [31, 1024] ∧ gb = [31, 1024]) ∨ (ga = [31, 1024] ∧ gb = [1024, 31]) ∨ (ga = [1024, 31] ∧ gb = [31, 1024]) ∨ (ga = [31, 1024] ∧ gb = [31]) ∨ (ga = [1024] ∧ gb = [31]))
    (H111 : CV VP 21 [.ptr 2 0] [pM M, pN M, [.d (.sl R), .d (I k0)], jZ, jZ] = some ⟨.tup [.agg (jA0 Ra (.sl (ga.map numRow))), .agg (jB0 Rb (.sl (gb.map numRow)))], [pM M, pN M, [.d (.sl R), .d (I gk)], jZ, jZ], [], 0⟩) :
    ∃ n : Nat, n < 6 ∧ CV VP 12 [.ptr 2 0] [pM M, pN M, [.d (.sl R), .d (I k0)]] = some ⟨rdV n Ra Rb ri f h a0 b0 a1 b1 p0 p1 l0 l1 s0 s1, [pM M, pN M, [.d (.sl R), .d (I gk)]], [], 0⟩ := by
  rcases hg with ⟨rfl, rfl⟩ | ⟨rfl, rfl⟩ | ⟨rfl, rfl⟩ | ⟨rfl, rfl⟩ | ⟨rfl, rfl⟩ | ⟨rfl, rfl⟩
  · exact ⟨0, by decide, rd_join M R Ra Rb gk k0 _ _ _ _ (hS _ _ _ _ H111 (eb_0 Ra ri f h a0 b0 a1 b1 p0 p1 l0 l1 s0 s1)) (rB_0 M R Ra Rb gk ri f h a0 b0 a1 b1 p0 p1 l0 l1 s0 s1)⟩
  · exact ⟨1, by decide, rd_join M R Ra Rb gk k0 _ _ _ _ (hS _ _ _ _ H111 (eb_1 Ra ri f h a0 b0 a1 b1 p0 p1 l0 l1 s0 s1)) (rB_1 M R Ra Rb gk ri f h a0 b0 a1 b1 p0 p1 l0 l1 s0 s1)⟩
  · exact ⟨2, by decide, rd_join M R Ra Rb gk k0 _ _ _ _ (hS _ _ _ _ H111 (eb_1 Ra ri f h a0 b0 a1 b1 p0 p1 l0 l1 s0 s1)) (rB_2 M R Ra Rb gk ri f h a0 b0 a1 b1 p0 p1 l0 l1 s0 s1)⟩
  · exact ⟨3, by decide, rd_join M R Ra Rb gk k0 _ _ _ _ (hS _ _ _ _ H111 (eb_2 Ra ri f h a0 b0 a1 b1 p0 p1 l0 l1 s0 s1)) (rB_3 M R Ra Rb gk ri f h a0 b0 a1 b1 p0 p1 l0 l1 s0 s1)⟩
  · exact ⟨4, by decide, rd_join M R Ra Rb gk k0 _ _ _ _ (hS _ _ _ _ H111 (eb_1 Ra ri f h a0 b0 a1 b1 p0 p1 l0 l1 s0 s1)) (rB_4 M R Ra Rb gk ri f h a0 b0 a1 b1 p0 p1 l0 l1 s0 s1)⟩
  · exact ⟨5, by decide, rd_join M R Ra Rb gk k0 _ _ _ _ (hS _ _ _ _ H111 (eb_3 Ra ri f h a0 b0 a1 b1 p0 p1 l0 l1 s0 s1)) (rB_5 M R Ra Rb gk ri f h a0 b0 a1 b1 p0 p1 l0 l1 s0 s1)⟩
set_option maxHeartbeats 8000000 in
theorem e37r (M : Mc) {l : List Int} (hB : Bytes l) : ∃ (ra rb : List Ru) (i gk : Nat) (x : Bx) (more : List Bx) (n : Nat), ra[i]? = some ⟨2, gold, x :: more⟩ ∧ x.ok ∧ x.fine ∧ (∀ r ∈ rb, r.fine) ∧ (∀ r ∈ ra, r.fine) ∧ rb.length ≤ 6 ∧ n < 6 ∧ (∃ pre tail : List Ru, ra = pre ++ [⟨2, gold, x :: more⟩] ++ tail ∧ i = pre.length ∧ pre.length ≤ 2 ∧ tail.length ≤ 1) ∧
    CV VP 12 [.ptr 2 0] [pM M, pN M, [.d (.sl (l.map byteRow)), .d (I 0)]] = some ⟨rdV n (ra.map Ru.row) (rb.map Ru.row) i x.f x.h x.a0 x.b0 x.a1 x.b1 x.p0 x.p1 x.l0 x.l1 x.r0 x.r1, [pM M, pN M, [.d (.sl (l.map byteRow)), .d (I (gk : Nat))]], [], 0⟩ := by
  obtain ⟨pre, x, more, tail, hr, hp, hm, ht, ho, hf⟩ := ruS_shape hB (s := 0) (by decide) (by decide) (nxA l 0)
  have hrfa := ruS_fine hB (s := 0) (by decide) (by decide) (nxA l 0)
  rw [hr] at hrfa
  have h18 := e36b hB 2 0 _ (ctx2 M)
  rw [show (gaF l 0).1.1 = gwN 0 1 2 (ruS l 0 (nxA l 0)).1 (grpA (nxV l 0 12).toNat) from rfl, hr,
    show (gaF l 0).1.2 = gwN 1 2 1 (ruS l 1 (ruS l 0 (nxA l 0)).2).1 (grpB (nxV l 0 12).toNat) from rfl] at h18
  have hrf := ruS_fine hB (s := 1) (by decide) (by decide) (ruS l 0 (nxA l 0)).2
  have hrl := (ruS_len hB 1 (ruS l 0 (nxA l 0)).2).1
  have hx := nxV_range hB (k := 0) (n := 12) (by decide)
  have hg := gk_list (x := (nxV l 0 12).toNat) (by omega)
  generalize (ruS l 1 (ruS l 0 (nxA l 0)).2).1 = rb at h18 hrf hrl
  generalize (gaF l 0).2 = gk at h18
  generalize grpA (nxV l 0 12).toNat = ga at h18 hg
  generalize grpB (nxV l 0 12).toNat = gb at h18 hg
  clear hr hx
  refine ⟨pre ++ [(⟨2, gold, x :: more⟩ : Ru)] ++ tail, rb, pre.length, gk, x, more, ?_⟩
  suffices h : ∃ n : Nat, n < 6 ∧ CV VP 12 [.ptr 2 0] [pM M, pN M, [.d (.sl (l.map byteRow)), .d (I 0)]] = some ⟨rdV n ((pre ++ [(⟨2, gold, x :: more⟩ : Ru)] ++ tail).map Ru.row) (rb.map Ru.row) pre.length x.f x.h x.a0 x.b0 x.a1 x.b1 x.p0 x.p1 x.l0 x.l1 x.r0 x.r1, [pM M, pN M, [.d (.sl (l.map byteRow)), .d (I (gk : Nat))]], [], 0⟩ by
    obtain ⟨n, hn, h⟩ := h
    exact ⟨n, by simp, ho, hf, hrf, hrfa, by omega, hn, ⟨pre, tail, rfl, rfl, hp, by rcases ht with rfl | rfl <;> simp⟩, h⟩
  match pre, hp with
  | [], _ =>
    match more, hm with
    | [], _ =>
      rcases ht with rfl | rfl
      · exact rd_one M (l.map byteRow) (shA0 x.f x.h x.a0 x.b0 x.a1 x.b1 x.p0 x.p1 x.l0 x.l1 x.r0 x.r1 [] [] [] (.lit (.string ⟨#[]⟩)) (.sl [bypass.row])) (rb.map Ru.row) (gk : Nat) 0 _ x.f x.h x.a0 x.b0 x.a1 x.b1 x.p0 x.p1 x.l0 x.l1 x.r0 x.r1 (fun G G2 SA DD H1 H2 => rA_0 M (l.map byteRow) (gk : Nat) 0 x.f x.h x.a0 x.b0 x.a1 x.b1 x.p0 x.p1 x.l0 x.l1 x.r0 x.r1 G G2 (rb.map Ru.row) SA DD [] [] [] (.lit (.string ⟨#[]⟩)) (.sl [bypass.row]) H1 H2) hg h18
      · exact rd_one M (l.map byteRow) (shA1 x.f x.h x.a0 x.b0 x.a1 x.b1 x.p0 x.p1 x.l0 x.l1 x.r0 x.r1 [] [] [] (.lit (.string ⟨#[]⟩)) (.sl [bypass.row])) (rb.map Ru.row) (gk : Nat) 0 _ x.f x.h x.a0 x.b0 x.a1 x.b1 x.p0 x.p1 x.l0 x.l1 x.r0 x.r1 (fun G G2 SA DD H1 H2 => rA_1 M (l.map byteRow) (gk : Nat) 0 x.f x.h x.a0 x.b0 x.a1 x.b1 x.p0 x.p1 x.l0 x.l1 x.r0 x.r1 G G2 (rb.map Ru.row) SA DD [] [] [] (.lit (.string ⟨#[]⟩)) (.sl [bypass.row]) H1 H2) hg h18
    | [w1], _ =>
      rcases ht with rfl | rfl
      · exact rd_one M (l.map byteRow) (shA2 x.f x.h x.a0 x.b0 x.a1 x.b1 x.p0 x.p1 x.l0 x.l1 x.r0 x.r1 [] [] w1.row (.lit (.string ⟨#[]⟩)) (.sl [bypass.row])) (rb.map Ru.row) (gk : Nat) 0 _ x.f x.h x.a0 x.b0 x.a1 x.b1 x.p0 x.p1 x.l0 x.l1 x.r0 x.r1 (fun G G2 SA DD H1 H2 => rA_2 M (l.map byteRow) (gk : Nat) 0 x.f x.h x.a0 x.b0 x.a1 x.b1 x.p0 x.p1 x.l0 x.l1 x.r0 x.r1 G G2 (rb.map Ru.row) SA DD [] [] w1.row (.lit (.string ⟨#[]⟩)) (.sl [bypass.row]) H1 H2) hg h18
      · exact rd_one M (l.map byteRow) (shA3 x.f x.h x.a0 x.b0 x.a1 x.b1 x.p0 x.p1 x.l0 x.l1 x.r0 x.r1 [] [] w1.row (.lit (.string ⟨#[]⟩)) (.sl [bypass.row])) (rb.map Ru.row) (gk : Nat) 0 _ x.f x.h x.a0 x.b0 x.a1 x.b1 x.p0 x.p1 x.l0 x.l1 x.r0 x.r1 (fun G G2 SA DD H1 H2 => rA_3 M (l.map byteRow) (gk : Nat) 0 x.f x.h x.a0 x.b0 x.a1 x.b1 x.p0 x.p1 x.l0 x.l1 x.r0 x.r1 G G2 (rb.map Ru.row) SA DD [] [] w1.row (.lit (.string ⟨#[]⟩)) (.sl [bypass.row]) H1 H2) hg h18
    | _ :: _ :: _, hm => exact absurd hm (by simp)
  | [u], _ =>
    match more, hm with
    | [], _ =>
      rcases ht with rfl | rfl
      · exact rd_one M (l.map byteRow) (shA4 x.f x.h x.a0 x.b0 x.a1 x.b1 x.p0 x.p1 x.l0 x.l1 x.r0 x.r1 u.row [] [] (.lit (.string ⟨#[]⟩)) (.sl [bypass.row])) (rb.map Ru.row) (gk : Nat) 0 _ x.f x.h x.a0 x.b0 x.a1 x.b1 x.p0 x.p1 x.l0 x.l1 x.r0 x.r1 (fun G G2 SA DD H1 H2 => rA_4 M (l.map byteRow) (gk : Nat) 0 x.f x.h x.a0 x.b0 x.a1 x.b1 x.p0 x.p1 x.l0 x.l1 x.r0 x.r1 G G2 (rb.map Ru.row) SA DD u.row [] [] (.lit (.string ⟨#[]⟩)) (.sl [bypass.row]) H1 H2) hg h18
      · exact rd_one M (l.map byteRow) (shA5 x.f x.h x.a0 x.b0 x.a1 x.b1 x.p0 x.p1 x.l0 x.l1 x.r0 x.r1 u.row [] [] (.lit (.string ⟨#[]⟩)) (.sl [bypass.row])) (rb.map Ru.row) (gk : Nat) 0 _ x.f x.h x.a0 x.b0 x.a1 x.b1 x.p0 x.p1 x.l0 x.l1 x.r0 x.r1 (fun G G2 SA DD H1 H2 => rA_5 M (l.map byteRow) (gk : Nat) 0 x.f x.h x.a0 x.b0 x.a1 x.b1 x.p0 x.p1 x.l0 x.l1 x.r0 x.r1 G G2 (rb.map Ru.row) SA DD u.row [] [] (.lit (.string ⟨#[]⟩)) (.sl [bypass.row]) H1 H2) hg h18
    | [w1], _ =>
      rcases ht with rfl | rfl
      · exact rd_one M (l.map byteRow) (shA6 x.f x.h x.a0 x.b0 x.a1 x.b1 x.p0 x.p1 x.l0 x.l1 x.r0 x.r1 u.row [] w1.row (.lit (.string ⟨#[]⟩)) (.sl [bypass.row])) (rb.map Ru.row) (gk : Nat) 0 _ x.f x.h x.a0 x.b0 x.a1 x.b1 x.p0 x.p1 x.l0 x.l1 x.r0 x.r1 (fun G G2 SA DD H1 H2 => rA_6 M (l.map byteRow) (gk : Nat) 0 x.f x.h x.a0 x.b0 x.a1 x.b1 x.p0 x.p1 x.l0 x.l1 x.r0 x.r1 G G2 (rb.map Ru.row) SA DD u.row [] w1.row (.lit (.string ⟨#[]⟩)) (.sl [bypass.row]) H1 H2) hg h18
      · exact rd_one M (l.map byteRow) (shA7 x.f x.h x.a0 x.b0 x.a1 x.b1 x.p0 x.p1 x.l0 x.l1 x.r0 x.r1 u.row [] w1.row (.lit (.string ⟨#[]⟩)) (.sl [bypass.row])) (rb.map Ru.row) (gk : Nat) 0 _ x.f x.h x.a0 x.b0 x.a1 x.b1 x.p0 x.p1 x.l0 x.l1 x.r0 x.r1 (fun G G2 SA DD H1 H2 => rA_7 M (l.map byteRow) (gk : Nat) 0 x.f x.h x.a0 x.b0 x.a1 x.b1 x.p0 x.p1 x.l0 x.l1 x.r0 x.r1 G G2 (rb.map Ru.row) SA DD u.row [] w1.row (.lit (.string ⟨#[]⟩)) (.sl [bypass.row]) H1 H2) hg h18
    | _ :: _ :: _, hm => exact absurd hm (by simp)
  | [u, u2], _ =>
    match more, hm with
    | [], _ =>
      rcases ht with rfl | rfl
      · exact rd_one M (l.map byteRow) (shA8 x.f x.h x.a0 x.b0 x.a1 x.b1 x.p0 x.p1 x.l0 x.l1 x.r0 x.r1 u.row u2.row [] (.lit (.string ⟨#[]⟩)) (.sl [bypass.row])) (rb.map Ru.row) (gk : Nat) 0 _ x.f x.h x.a0 x.b0 x.a1 x.b1 x.p0 x.p1 x.l0 x.l1 x.r0 x.r1 (fun G G2 SA DD H1 H2 => rA_8 M (l.map byteRow) (gk : Nat) 0 x.f x.h x.a0 x.b0 x.a1 x.b1 x.p0 x.p1 x.l0 x.l1 x.r0 x.r1 G G2 (rb.map Ru.row) SA DD u.row u2.row [] (.lit (.string ⟨#[]⟩)) (.sl [bypass.row]) H1 H2) hg h18
      · exact rd_one M (l.map byteRow) (shA9 x.f x.h x.a0 x.b0 x.a1 x.b1 x.p0 x.p1 x.l0 x.l1 x.r0 x.r1 u.row u2.row [] (.lit (.string ⟨#[]⟩)) (.sl [bypass.row])) (rb.map Ru.row) (gk : Nat) 0 _ x.f x.h x.a0 x.b0 x.a1 x.b1 x.p0 x.p1 x.l0 x.l1 x.r0 x.r1 (fun G G2 SA DD H1 H2 => rA_9 M (l.map byteRow) (gk : Nat) 0 x.f x.h x.a0 x.b0 x.a1 x.b1 x.p0 x.p1 x.l0 x.l1 x.r0 x.r1 G G2 (rb.map Ru.row) SA DD u.row u2.row [] (.lit (.string ⟨#[]⟩)) (.sl [bypass.row]) H1 H2) hg h18
    | [w1], _ =>
      rcases ht with rfl | rfl
      · exact rd_one M (l.map byteRow) (shA10 x.f x.h x.a0 x.b0 x.a1 x.b1 x.p0 x.p1 x.l0 x.l1 x.r0 x.r1 u.row u2.row w1.row (.lit (.string ⟨#[]⟩)) (.sl [bypass.row])) (rb.map Ru.row) (gk : Nat) 0 _ x.f x.h x.a0 x.b0 x.a1 x.b1 x.p0 x.p1 x.l0 x.l1 x.r0 x.r1 (fun G G2 SA DD H1 H2 => rA_10 M (l.map byteRow) (gk : Nat) 0 x.f x.h x.a0 x.b0 x.a1 x.b1 x.p0 x.p1 x.l0 x.l1 x.r0 x.r1 G G2 (rb.map Ru.row) SA DD u.row u2.row w1.row (.lit (.string ⟨#[]⟩)) (.sl [bypass.row]) H1 H2) hg h18
      · exact rd_one M (l.map byteRow) (shA11 x.f x.h x.a0 x.b0 x.a1 x.b1 x.p0 x.p1 x.l0 x.l1 x.r0 x.r1 u.row u2.row w1.row (.lit (.string ⟨#[]⟩)) (.sl [bypass.row])) (rb.map Ru.row) (gk : Nat) 0 _ x.f x.h x.a0 x.b0 x.a1 x.b1 x.p0 x.p1 x.l0 x.l1 x.r0 x.r1 (fun G G2 SA DD H1 H2 => rA_11 M (l.map byteRow) (gk : Nat) 0 x.f x.h x.a0 x.b0 x.a1 x.b1 x.p0 x.p1 x.l0 x.l1 x.r0 x.r1 G G2 (rb.map Ru.row) SA DD u.row u2.row w1.row (.lit (.string ⟨#[]⟩)) (.sl [bypass.row]) H1 H2) hg h18
    | _ :: _ :: _, hm => exact absurd hm (by simp)
  | _ :: _ :: _ :: _, hp => exact absurd hp (by simp)
end Go.Proofs.Ytgiciiknagelhaa
set_option linter.unusedVariables false
set_option maxRecDepth 100000
set_option maxHeartbeats 1000000
namespace Go.Proofs.Ytgiciiknagelhaa
open Go.VM
theorem w_big {i : Nat} (h : i < 9223372036854775807) : IntKind.i64.wrap ((i : Int) + 1) = ((i + 1 : Nat) : Int) := by
  rw [IntWalk.i64_in _ (by omega)]; omega
mutual
def Tm.big : Tm → Prop
  | .mk _ _ args => args.length ≤ 9223372036854775807 ∧ Tm.bigs args
def Tm.bigs : List Tm → Prop
  | [] => True
  | t :: ts => t.big ∧ Tm.bigs ts
end
theorem Tm.bigs_mem : ∀ {ts : List Tm} {t : Tm}, Tm.bigs ts → t ∈ ts → t.big
  | t :: ts, u, h, hu => by
    rcases List.mem_cons.1 hu with rfl | hu
    · exact h.1
    · exact Tm.bigs_mem h.2 hu
theorem e19B : ∀ (n : Nat) (t u : Tm), SizeOf.sizeOf t < n → t.big → CV VP 17 [.agg (t.row.map .d), .agg (u.row.map .d)] [] = some ⟨.d (B (t.eqb u)), [], [], 0⟩
  | 0, t, u, h, _ => absurd h (Nat.not_lt_zero _)
  | n + 1, .mk a b ts, .mk x y us, hn, hs => by
    refine CV_run (vf := vf17) rfl rfl ?_
    rw [vf17_start]
    simp only [Tm.row, List.map_cons, List.map_nil, Tm.rows_eq]
    cases hax : (a != x) with
    | true =>
      (repeat (first
    | refine RX_seq ?_
    | refine RX_block ?_
    | ((first | refine RX_reg ?_ | refine RX_cond' ?_ | refine RX_draw0 ?_ | refine RX_draw rfl ?_ | refine RX_skip ?_ | refine RX_gfrz ?_ | refine RX_exit ?_ | refine RX_ret ?_); try (simp only [go_sem, Nat.max_zero, List.isEmpty_cons, Int.reduceToNat, Nat.reducePow, Int.reduceEq, Int.reduceNe, Int.reduceLT, Int.reduceLE, Nat.reduceAdd, Nat.reduceLeDiff, ↓reduceIte, Nat.reduceLT, Nat.reduceMul, Nat.reduceSub, reduceCtorEq, frzLoc, rowCells, vAppM, beq_iff_eq, bne_iff_ne, bne_self_eq_false, beq_self_eq_true, beq_true, beq_false, I, B, w, hax]))))
      (simp only [go_sem, Nat.max_zero, List.isEmpty_cons, Int.reduceToNat, Nat.reducePow, Int.reduceEq, Int.reduceNe, Int.reduceLT, Int.reduceLE, Nat.reduceAdd, Nat.reduceLeDiff, ↓reduceIte, Nat.reduceLT, Nat.reduceMul, Nat.reduceSub, reduceCtorEq, frzLoc, rowCells, vAppM, beq_iff_eq, bne_iff_ne, bne_self_eq_false, beq_self_eq_true, beq_true, beq_false, I, B, w, vf17, I, B, Tm.eqb])
      have : (a == x) = false := by simpa using hax
      rw [this]; rfl
    | false =>
    have hax' : (a == x) = true := by simpa using hax
    cases hby : (b != y) with
    | true =>
      (repeat (first
    | refine RX_seq ?_
    | refine RX_block ?_
    | ((first | refine RX_reg ?_ | refine RX_cond' ?_ | refine RX_draw0 ?_ | refine RX_draw rfl ?_ | refine RX_skip ?_ | refine RX_gfrz ?_ | refine RX_exit ?_ | refine RX_ret ?_); try (simp only [go_sem, Nat.max_zero, List.isEmpty_cons, Int.reduceToNat, Nat.reducePow, Int.reduceEq, Int.reduceNe, Int.reduceLT, Int.reduceLE, Nat.reduceAdd, Nat.reduceLeDiff, ↓reduceIte, Nat.reduceLT, Nat.reduceMul, Nat.reduceSub, reduceCtorEq, frzLoc, rowCells, vAppM, beq_iff_eq, bne_iff_ne, bne_self_eq_false, beq_self_eq_true, beq_true, beq_false, I, B, w, hax, hby]))))
      (simp only [go_sem, Nat.max_zero, List.isEmpty_cons, Int.reduceToNat, Nat.reducePow, Int.reduceEq, Int.reduceNe, Int.reduceLT, Int.reduceLE, Nat.reduceAdd, Nat.reduceLeDiff, ↓reduceIte, Nat.reduceLT, Nat.reduceMul, Nat.reduceSub, reduceCtorEq, frzLoc, rowCells, vAppM, beq_iff_eq, bne_iff_ne, bne_self_eq_false, beq_self_eq_true, beq_true, beq_false, I, B, w, vf17, I, B, Tm.eqb])
      have : (b == y) = false := by simpa using hby
      rw [this, Bool.false_and, Bool.and_false]
    | false =>
    have hby' : (b == y) = true := by simpa using hby
    cases hl : ((ts.length : Int) != us.length) with
    | true =>
      (repeat (first
    | refine RX_seq ?_
    | refine RX_block ?_
    | ((first | refine RX_reg ?_ | refine RX_cond' ?_ | refine RX_draw0 ?_ | refine RX_draw rfl ?_ | refine RX_skip ?_ | refine RX_gfrz ?_ | refine RX_exit ?_ | refine RX_ret ?_); try (simp only [go_sem, Nat.max_zero, List.isEmpty_cons, Int.reduceToNat, Nat.reducePow, Int.reduceEq, Int.reduceNe, Int.reduceLT, Int.reduceLE, Nat.reduceAdd, Nat.reduceLeDiff, ↓reduceIte, Nat.reduceLT, Nat.reduceMul, Nat.reduceSub, reduceCtorEq, frzLoc, rowCells, vAppM, beq_iff_eq, bne_iff_ne, bne_self_eq_false, beq_self_eq_true, beq_true, beq_false, I, B, w, hax, hby, hl, List.length_map]))))
      (simp only [go_sem, Nat.max_zero, List.isEmpty_cons, Int.reduceToNat, Nat.reducePow, Int.reduceEq, Int.reduceNe, Int.reduceLT, Int.reduceLE, Nat.reduceAdd, Nat.reduceLeDiff, ↓reduceIte, Nat.reduceLT, Nat.reduceMul, Nat.reduceSub, reduceCtorEq, frzLoc, rowCells, vAppM, beq_iff_eq, bne_iff_ne, bne_self_eq_false, beq_self_eq_true, beq_true, beq_false, I, B, w, vf17, I, B, Tm.eqb])
      have : ts.length ≠ us.length := by
        have : (ts.length : Int) ≠ us.length := by simpa using hl
        omega
      rw [Tm.eqbs_len this, Bool.and_false, Bool.and_false]
    | false =>
    have hlen : ts.length = us.length := by
      have : (ts.length : Int) = us.length := by simpa using hl
      omega
    (repeat (first
    | refine RX_seq ?_
    | refine RX_block ?_
    | ((first | refine RX_reg ?_ | refine RX_cond' ?_ | refine RX_draw0 ?_ | refine RX_draw rfl ?_ | refine RX_skip ?_ | refine RX_gfrz ?_ | refine RX_exit ?_ | refine RX_ret ?_); try (simp only [go_sem, Nat.max_zero, List.isEmpty_cons, Int.reduceToNat, Nat.reducePow, Int.reduceEq, Int.reduceNe, Int.reduceLT, Int.reduceLE, Nat.reduceAdd, Nat.reduceLeDiff, ↓reduceIte, Nat.reduceLT, Nat.reduceMul, Nat.reduceSub, reduceCtorEq, frzLoc, rowCells, vAppM, beq_iff_eq, bne_iff_ne, bne_self_eq_false, beq_self_eq_true, beq_true, beq_false, I, B, w, hax, hby, hl, List.length_map]))))
    refine RX_loop ?_
    refine RL_head ?_
    (simp only [go_sem, Nat.max_zero, List.isEmpty_cons, Int.reduceToNat, Nat.reducePow, Int.reduceEq, Int.reduceNe, Int.reduceLT, Int.reduceLE, Nat.reduceAdd, Nat.reduceLeDiff, ↓reduceIte, Nat.reduceLT, Nat.reduceMul, Nat.reduceSub, reduceCtorEq, frzLoc, rowCells, vAppM, beq_iff_eq, bne_iff_ne, bne_self_eq_false, beq_self_eq_true, beq_true, beq_false, I, B, w, St.head, forget, List.length_map, vf17K0, RLK_some])
    have hret : (Tm.mk a b ts).eqb (.mk x y us) = Tm.eqbs (ts.drop 0) (us.drop 0) := by rw [Tm.eqb, hax', hby']; rfl
    rw [hret]
    obtain ⟨hs1, hs2⟩ := hs
    suffices H : ∀ (m i : Nat), i + m = ts.length → RX VP vf17L0 ⟨(.any :: .any :: .ptr 0 0 :: .ptr 1 0 :: .any :: .d (.lit (.int .i64 (i : Int))) :: .any :: .any :: .any :: .any :: .any :: .any :: .any :: .any :: .any :: .any :: .any :: .any :: .any :: .any :: .any :: .any :: .any :: .any :: .any :: .any :: .any :: .any :: .any :: .any :: .any :: .any :: .any :: .any :: .any :: .any :: .any :: .any :: .any :: .any :: .any :: .any :: .any :: .any :: .any :: .any :: []),
        [[V.d (I a), V.d (I b), V.d (D.sl (List.map Tm.row ts))], [V.d (I x), V.d (I y), V.d (D.sl (List.map Tm.row us))]], [], 0, 0, 0⟩
        (again VP vf17K0 vf17L0 2 (outQ 0 (thn VP ((VCode.reg [{ dst := some 4, op := VOp.mov (VArg.c (V.d (D.lit (Value.bool true)))), guard := none }]).seq VCode.ret)
          (retQ vf17 0 { r := V.d (B (Tm.eqbs (ts.drop i) (us.drop i))), blocks := [], live := [], gn := 0 })))) from H ts.length 0 (Nat.zero_add _)
    intro m
    induction m with
    | zero =>
      intro i hi
      have h1 : ¬ i < ts.length := by omega
      unfold vf17L0
      (repeat (first
    | refine RX_seq ?_
    | refine RX_block ?_
    | ((first | refine RX_reg ?_ | refine RX_cond' ?_ | refine RX_draw0 ?_ | refine RX_draw rfl ?_ | refine RX_skip ?_ | refine RX_gfrz ?_ | refine RX_exit ?_ | refine RX_ret ?_); try (simp only [go_sem, Nat.max_zero, List.isEmpty_cons, Int.reduceToNat, Nat.reducePow, Int.reduceEq, Int.reduceNe, Int.reduceLT, Int.reduceLE, Nat.reduceAdd, Nat.reduceLeDiff, ↓reduceIte, Nat.reduceLT, Nat.reduceMul, Nat.reduceSub, reduceCtorEq, frzLoc, rowCells, vAppM, beq_iff_eq, bne_iff_ne, bne_self_eq_false, beq_self_eq_true, beq_true, beq_false, I, B, w, List.length_map, Int.ofNat_lt, h1, vf17_res, vf17_keep]))))
      rw [List.drop_eq_nil_of_le (by omega), List.drop_eq_nil_of_le (by omega)]
      rfl
    | succ m ih =>
      intro i hi
      have h1 : i < ts.length := by omega
      have h2 : i < us.length := by omega
      obtain ⟨t, ht⟩ : ∃ t, ts[i]? = some t := ⟨_, List.getElem?_eq_getElem h1⟩
      obtain ⟨u, hu⟩ : ∃ u, us[i]? = some u := ⟨_, List.getElem?_eq_getElem h2⟩
      have hc := e19B n t u (by
        have := List.sizeOf_lt_of_mem (List.mem_of_getElem? ht)
        simp only [Tm.mk.sizeOf_spec] at hn
        omega) (Tm.bigs_mem hs2 (List.mem_of_getElem? ht))
      have hrow : ∀ t : Tm, t.row.length = 3 := fun t => by cases t; rfl
      rw [Tm.eqbs_drop ht hu]
      cases he : t.eqb u with
      | false =>
        rw [he] at hc
        unfold vf17L0
        (repeat (first
    | refine RX_seq ?_
    | refine RX_block ?_
    | ((first | refine RX_reg ?_ | refine RX_cond' ?_ | refine RX_draw0 ?_ | refine RX_draw rfl ?_ | refine RX_skip ?_ | refine RX_gfrz ?_ | refine RX_exit ?_ | refine RX_ret ?_); try (simp only [go_sem, Nat.max_zero, List.isEmpty_cons, Int.reduceToNat, Nat.reducePow, Int.reduceEq, Int.reduceNe, Int.reduceLT, Int.reduceLE, Nat.reduceAdd, Nat.reduceLeDiff, ↓reduceIte, Nat.reduceLT, Nat.reduceMul, Nat.reduceSub, reduceCtorEq, frzLoc, rowCells, vAppM, beq_iff_eq, bne_iff_ne, bne_self_eq_false, beq_self_eq_true, beq_true, beq_false, I, B, w, List.length_map, Int.ofNat_lt, h1, h2, List.getElem?_map, ht, hu, vf17_res, vf17_keep, hrow, List.take_of_length_le, erL_d, ltbL_d, hc]))))
        rw [Bool.false_and]
      | true =>
        rw [he] at hc
        unfold vf17L0
        (repeat (first
    | refine RX_seq ?_
    | refine RX_block ?_
    | ((first | refine RX_reg ?_ | refine RX_cond' ?_ | refine RX_draw0 ?_ | refine RX_draw rfl ?_ | refine RX_skip ?_ | refine RX_gfrz ?_ | refine RX_exit ?_ | refine RX_ret ?_); try (simp only [go_sem, Nat.max_zero, List.isEmpty_cons, Int.reduceToNat, Nat.reducePow, Int.reduceEq, Int.reduceNe, Int.reduceLT, Int.reduceLE, Nat.reduceAdd, Nat.reduceLeDiff, ↓reduceIte, Nat.reduceLT, Nat.reduceMul, Nat.reduceSub, reduceCtorEq, frzLoc, rowCells, vAppM, beq_iff_eq, bne_iff_ne, bne_self_eq_false, beq_self_eq_true, beq_true, beq_false, I, B, w, List.length_map, Int.ofNat_lt, h1, h2, List.getElem?_map, ht, hu, vf17_res, vf17_keep, hrow, List.take_of_length_le, erL_d, ltbL_d, hc, w_big (Nat.lt_of_lt_of_le h1 hs1)]))))
        refine RL_head ?_
        (simp only [go_sem, Nat.max_zero, List.isEmpty_cons, Int.reduceToNat, Nat.reducePow, Int.reduceEq, Int.reduceNe, Int.reduceLT, Int.reduceLE, Nat.reduceAdd, Nat.reduceLeDiff, ↓reduceIte, Nat.reduceLT, Nat.reduceMul, Nat.reduceSub, reduceCtorEq, frzLoc, rowCells, vAppM, beq_iff_eq, bne_iff_ne, bne_self_eq_false, beq_self_eq_true, beq_true, beq_false, I, B, w, St.head, forget, List.length_map, vf17K0, RLK_some])
        exact ih (i + 1) (by omega)
mutual
theorem Tm.eqb_self : ∀ t : Tm, t.eqb t = true
  | .mk a b ts => by rw [Tm.eqb, Tm.eqbs_self ts]; simp
theorem Tm.eqbs_self : ∀ ts : List Tm, Tm.eqbs ts ts = true
  | [] => rfl
  | t :: ts => by rw [Tm.eqbs, Tm.eqb_self t, Tm.eqbs_self ts]; rfl
end
def okDD : Nat → List D → Bool
  | n + 1, [.lit (.int .i64 _), .lit (.int .i64 _), .sl es] => Nat.ble es.length 1000 && es.all (okDD n)
  | _, _ => false
theorem okD_tm : ∀ (n : Nat) (ds : List D), okDD n ds = true → ∃ t : Tm, t.row = ds ∧ t.big
  | 0, ds, h => by simp [okDD] at h
  | n + 1, ds, h => by
    unfold okDD at h
    split at h
    · rename_i m a b es heq
      simp only [Bool.and_eq_true] at h
      obtain ⟨h1, h2⟩ := h
      have : ∀ l : List (List D), l.all (okDD m) = true → ∃ ts : List Tm, ts.map Tm.row = l ∧ Tm.bigs ts := by
        intro l
        induction l with
        | nil => exact fun _ => ⟨[], rfl, trivial⟩
        | cons r l ih =>
          intro hl
          rw [List.all_cons, Bool.and_eq_true] at hl
          obtain ⟨ts, h3, h4⟩ := ih hl.2
          obtain ⟨t, h5, h6⟩ := okD_tm m r hl.1
          exact ⟨t :: ts, by rw [List.map_cons, h5, h3], h6, h4⟩
      obtain ⟨ts, h3, h4⟩ := this es h2
      refine ⟨.mk a b ts, by rw [Tm.row, Tm.rows_eq, h3], ?_, h4⟩
      have := Nat.le_of_ble_eq_true h1
      have h5 : ts.length = es.length := by rw [← h3, List.length_map]
      omega
    · cases h
theorem e17D {ds : List D} (h : okDD 40 ds = true) : CV VP 17 [.agg (ds.map .d), .agg (ds.map .d)] [] = some ⟨.d (B true), [], [], 0⟩ := by
  obtain ⟨t, rfl, hb⟩ := okD_tm _ _ h
  have := e19B _ t t (Nat.lt_succ_self _) hb
  rwa [Tm.eqb_self] at this
theorem e17E {a b c : D} (h : okDD 40 [a, b, c] = true) : CV VP 17 [.agg [.d a, .d b, .d c], .agg [.d a, .d b, .d c]] [] = some ⟨.d (B true), [], [], 0⟩ := e17D (ds := [a, b, c]) h
theorem e17F {a b c a' b' c' : D} (h : okDD 40 [a, b, c] = true) (e : [a, b, c] = [a', b', c']) : CV VP 17 [.agg [.d a, .d b, .d c], .agg [.d a', .d b', .d c']] [] = some ⟨.d (B true), [], [], 0⟩ := by
  simp only [List.cons.injEq, and_true] at e
  obtain ⟨rfl, rfl, rfl⟩ := e
  exact e17E h
theorem wt_big {P : Program} {T : TypeId} {f0 f1 f2 : Field} (hT : P.underlying T = some (.struct #[f0, f1, f2])) (h0 : P.underlying f0.type = some (.int .i64)) (h1 : P.underlying f1.type = some (.int .i64)) (h2 : P.underlying f2.type = some (.slice T)) :
    ∀ (n : Nat) (ds : List D), SizeOf.sizeOf ds < n → WT P T ds → ∃ t : Tm, ds = t.row ∧ t.big
  | 0, ds, h, _ => absurd h (Nat.not_lt_zero _)
  | n + 1, ds, hn, hw => by
    obtain ⟨a, b, c, rfl, wa, wb, wc⟩ := WT.st3 hT hw
    obtain ⟨x, rfl, _⟩ := wa.int_inv h0
    obtain ⟨y, rfl, _⟩ := wb.int_inv h1
    obtain ⟨es, rfl, hl, hr⟩ := wc.sl_inv h2
    have hsz : SizeOf.sizeOf es < n := by simp only [List.cons_append, List.nil_append, List.cons.sizeOf_spec, D.sl.sizeOf_spec] at hn; omega
    have : ∀ l : List (List D), (∀ r ∈ l, r ∈ es) → ∃ ts : List Tm, l = ts.map Tm.row ∧ Tm.bigs ts := by
      intro l
      induction l with
      | nil => exact fun _ => ⟨[], rfl, trivial⟩
      | cons r l ih =>
        intro hm
        obtain ⟨ts, rfl, h4⟩ := ih fun r' hr' => hm r' (List.mem_cons_of_mem _ hr')
        have hrm := hm r List.mem_cons_self
        obtain ⟨t, rfl, h5⟩ := wt_big hT h0 h1 h2 n r (by have := List.sizeOf_lt_of_mem hrm; omega) (hr r hrm)
        exact ⟨t :: ts, rfl, h5, h4⟩
    obtain ⟨ts, rfl, h4⟩ := this es fun r h => h
    refine ⟨.mk x y ts, by simp [Tm.row, Tm.rows_eq], ?_, h4⟩
    rw [List.length_map] at hl
    exact hl
end Go.Proofs.Ytgiciiknagelhaa
set_option linter.unusedVariables false
set_option maxRecDepth 100000
set_option maxHeartbeats 4000000
namespace Go.Proofs.Ytgiciiknagelhaa
open Go.VM
theorem e171 (bs : List Bx) (hl : bs.length ≤ 16) : CV VP 131 [.d (.sl (bs.map Bx.row)), .d (.sl (bs.map Bx.row))] [] = some ⟨.d (B true), [], [], 0⟩ := by
  refine CV_run (vf := vf131) rfl rfl ?_
  rw [vf131_start]
  (repeat (first
    | refine RX_seq ?_
    | refine RX_block ?_
    | ((first | refine RX_reg ?_ | refine RX_cond' ?_ | refine RX_draw0 ?_ | refine RX_draw rfl ?_ | refine RX_skip ?_ | refine RX_gfrz ?_ | refine RX_exit ?_ | refine RX_ret ?_); try (simp only [go_sem, Nat.max_zero, List.isEmpty_cons, Int.reduceToNat, Nat.reducePow, Int.reduceEq, Int.reduceNe, Int.reduceLT, Int.reduceLE, Nat.reduceAdd, Nat.reduceLeDiff, ↓reduceIte, Nat.reduceLT, Nat.reduceMul, Nat.reduceSub, reduceCtorEq, frzLoc, rowCells, vAppM, beq_iff_eq, bne_iff_ne, bne_self_eq_false, beq_self_eq_true, beq_true, beq_false, I, B, w, vf131_res, vf131_keep, List.length_map]))))
  refine RX_loopN (n := 0) rfl ?_
  refine RL_ind (fun m st => ∃ (i : Nat), i + m = bs.length ∧ At vf131K0 0 st ((.d (.sl (bs.map Bx.row)) :: .d (.sl (bs.map Bx.row)) :: .any :: .any :: .any :: .d (I (i : Nat)) :: .any :: .any :: .any :: .any :: .any :: .any :: .any :: .any :: .any :: .any :: .any :: .any :: .any :: .any :: .any :: .any :: .any :: .any :: .any :: .any :: [])) [] [] 0 0) ?_ bs.length _ ⟨0, Nat.zero_add _, rfl, rfl, rfl, rfl, rfl, rfl⟩
  rintro m st ⟨i, hi, hat⟩ ih
  refine RL_at hat rfl rfl (vf131L0_go ?_)
  clear hat
  cases m with
  | zero =>
    have h1 : ¬ i < bs.length := by omega
    (repeat (first
    | refine RX_seq ?_
    | refine RX_block ?_
    | ((first | refine RX_reg ?_ | refine RX_cond' ?_ | refine RX_draw0 ?_ | refine RX_draw rfl ?_ | refine RX_skip ?_ | refine RX_gfrz ?_ | refine RX_exit ?_ | refine RX_ret ?_); try (simp only [go_sem, Nat.max_zero, List.isEmpty_cons, Int.reduceToNat, Nat.reducePow, Int.reduceEq, Int.reduceNe, Int.reduceLT, Int.reduceLE, Nat.reduceAdd, Nat.reduceLeDiff, ↓reduceIte, Nat.reduceLT, Nat.reduceMul, Nat.reduceSub, reduceCtorEq, frzLoc, rowCells, vAppM, beq_iff_eq, bne_iff_ne, bne_self_eq_false, beq_self_eq_true, beq_true, beq_false, I, B, w, vf131_res, vf131_keep, List.length_map, h1]))))
  | succ m =>
    have h1 : i < bs.length := by omega
    obtain ⟨b, hbi⟩ : ∃ b, bs[i]? = some b := ⟨_, List.getElem?_eq_getElem h1⟩
    have hrow : (bs.map Bx.row)[i]? = some b.row := by rw [List.getElem?_map, hbi]; rfl
    have hwi := w_nat (i := i) (by omega)
    have next := fun st hat => ih m st (Nat.lt_succ_self m) ⟨i + 1, by omega, hat⟩
    clear ih hbi hi
    (repeat (first
    | refine RX_seq ?_
    | refine RX_block ?_
    | ((first | refine RX_reg ?_ | refine RX_cond' ?_ | refine RX_draw0 ?_ | refine RX_draw rfl ?_ | refine RX_skip ?_ | refine RX_gfrz ?_ | refine RX_exit ?_ | refine RX_ret ?_); try (simp only [go_sem, Nat.max_zero, List.isEmpty_cons, Int.reduceToNat, Nat.reducePow, Int.reduceEq, Int.reduceNe, Int.reduceLT, Int.reduceLE, Nat.reduceAdd, Nat.reduceLeDiff, ↓reduceIte, Nat.reduceLT, Nat.reduceMul, Nat.reduceSub, reduceCtorEq, frzLoc, rowCells, vAppM, beq_iff_eq, bne_iff_ne, bne_self_eq_false, beq_self_eq_true, beq_true, beq_false, I, B, w, vf131_res, vf131_keep, List.length_map, h1, hrow, hwi, vCellsEq, vCellEq, beq_self_eq_true]))))
    exact next _ ⟨rfl, rfl, rfl, rfl, rfl, rfl⟩
theorem e96 (rs : List Ru) (hl : rs.length ≤ 24) (hr : ∀ r ∈ rs, r.bs.length ≤ 16) : CV VP 61 [.d (.sl (rs.map Ru.row)), .d (.sl (rs.map Ru.row))] [] = some ⟨.d (B true), [], [], 0⟩ := by
  refine CV_run (vf := vf61) rfl rfl ?_
  rw [vf61_start]
  (repeat (first
    | refine RX_seq ?_
    | refine RX_block ?_
    | ((first | refine RX_reg ?_ | refine RX_cond' ?_ | refine RX_draw0 ?_ | refine RX_draw rfl ?_ | refine RX_skip ?_ | refine RX_gfrz ?_ | refine RX_exit ?_ | refine RX_ret ?_); try (simp only [go_sem, Nat.max_zero, List.isEmpty_cons, Int.reduceToNat, Nat.reducePow, Int.reduceEq, Int.reduceNe, Int.reduceLT, Int.reduceLE, Nat.reduceAdd, Nat.reduceLeDiff, ↓reduceIte, Nat.reduceLT, Nat.reduceMul, Nat.reduceSub, reduceCtorEq, frzLoc, rowCells, vAppM, beq_iff_eq, bne_iff_ne, bne_self_eq_false, beq_self_eq_true, beq_true, beq_false, I, B, w, vf61_res, vf61_keep, List.length_map]))))
  refine RX_loopN (n := 0) rfl ?_
  refine RL_ind (fun m st => ∃ (i : Nat), i + m = rs.length ∧ At vf61K0 0 st ((.d (.sl (rs.map Ru.row)) :: .d (.sl (rs.map Ru.row)) :: .any :: .any :: .any :: .d (I (i : Nat)) :: .any :: .any :: .any :: .any :: .any :: .any :: .any :: .any :: .any :: .any :: .any :: .any :: .any :: .any :: .any :: .any :: .any :: .any :: .any :: .any :: .any :: .any :: .any :: .any :: .any :: .any :: .any :: .any :: .any :: .any :: .any :: .any :: .any :: .any :: .any :: .any :: .any :: .any :: .any :: .any :: .any :: .any :: .any :: .any :: .any :: .any :: .any :: .any :: .any :: [])) [] [] 0 0) ?_ rs.length _ ⟨0, Nat.zero_add _, rfl, rfl, rfl, rfl, rfl, rfl⟩
  rintro m st ⟨i, hi, hat⟩ ih
  refine RL_at hat rfl rfl (vf61L0_go ?_)
  clear hat
  cases m with
  | zero =>
    have h1 : ¬ i < rs.length := by omega
    (repeat (first
    | refine RX_seq ?_
    | refine RX_block ?_
    | ((first | refine RX_reg ?_ | refine RX_cond' ?_ | refine RX_draw0 ?_ | refine RX_draw rfl ?_ | refine RX_skip ?_ | refine RX_gfrz ?_ | refine RX_exit ?_ | refine RX_ret ?_); try (simp only [go_sem, Nat.max_zero, List.isEmpty_cons, Int.reduceToNat, Nat.reducePow, Int.reduceEq, Int.reduceNe, Int.reduceLT, Int.reduceLE, Nat.reduceAdd, Nat.reduceLeDiff, ↓reduceIte, Nat.reduceLT, Nat.reduceMul, Nat.reduceSub, reduceCtorEq, frzLoc, rowCells, vAppM, beq_iff_eq, bne_iff_ne, bne_self_eq_false, beq_self_eq_true, beq_true, beq_false, I, B, w, vf61_res, vf61_keep, List.length_map, h1]))))
  | succ m =>
    have h1 : i < rs.length := by omega
    obtain ⟨r, hri⟩ : ∃ r, rs[i]? = some r := ⟨_, List.getElem?_eq_getElem h1⟩
    have hrow : (rs.map Ru.row)[i]? = some r.row := by rw [List.getElem?_map, hri]; rfl
    have hs : vStr .neq r.tm r.tm = some (.d (B false)) := by simp [vStr, lit]
    have h171 := e171 r.bs (hr r (List.mem_of_getElem? hri))
    have hwi := w_nat (i := i) (by omega)
    have next := fun st hat => ih m st (Nat.lt_succ_self m) ⟨i + 1, by omega, hat⟩
    clear ih hri hi
    (repeat (first
    | refine RX_seq ?_
    | refine RX_block ?_
    | ((first | refine RX_reg ?_ | refine RX_cond' ?_ | refine RX_draw0 ?_ | refine RX_draw rfl ?_ | refine RX_skip ?_ | refine RX_gfrz ?_ | refine RX_exit ?_ | refine RX_ret ?_); try (simp only [go_sem, Nat.max_zero, List.isEmpty_cons, Int.reduceToNat, Nat.reducePow, Int.reduceEq, Int.reduceNe, Int.reduceLT, Int.reduceLE, Nat.reduceAdd, Nat.reduceLeDiff, ↓reduceIte, Nat.reduceLT, Nat.reduceMul, Nat.reduceSub, reduceCtorEq, frzLoc, rowCells, vAppM, beq_iff_eq, bne_iff_ne, bne_self_eq_false, beq_self_eq_true, beq_true, beq_false, I, B, w, vf61_res, vf61_keep, List.length_map, h1, hrow, hwi, h171, hs, bne_self_eq_false, beq_self_eq_true]))))
    exact next _ ⟨rfl, rfl, rfl, rfl, rfl, rfl⟩
end Go.Proofs.Ytgiciiknagelhaa
