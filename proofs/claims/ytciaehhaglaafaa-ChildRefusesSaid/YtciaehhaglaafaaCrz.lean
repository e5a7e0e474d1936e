/- The law ChildRefuses on the machine: it answers true. Conditions: none. -/
import Derived.Test.YtciaehhaglaafaaVd
import Derived.Test.YtciaehhaglaafaaCrb
set_option linter.unusedSimpArgs false
set_option linter.unusedVariables false
set_option maxRecDepth 100000
set_option maxHeartbeats 1000000
namespace Go.Proofs.Ytciaehhaglaafaa
open Go.VM
theorem H5_of {v : Va5} {L : List (List D)} (hN : NX v.R v.nx v.na) (hgk : 0 ≤ v.gk) (h17 : CV VP 17 [.d (.sl v.X), .d (I 60)] [] = some ⟨.ptr 0 0, [[.sl 1 v.R (.own 0 0), .d (I 0)]], [0], 1⟩)
    (h18 : CV VP 18 [.ptr 0 0] [[.d (.sl v.R), .d (I 0)]] = some ⟨.tup [.agg [.d (I 0), .d (I 1), .d (I 1), .d (I 2), .d (.sl L), .d v.G, .d (I 0), .d (I 2), .d (I 2), .d (I 1), .d (.sl []), .d (I 2), .d (I 2), .d (.sl []), .d (I 0), .d (.sl []), .d (.sl []), .d (.sl []), .d (.sl [])], .agg [.d (v.bd 0), .d (v.bd 1), .d (v.bd 2), .d (v.bd 3), .d (v.bd 4), .d (v.bd 5), .d (v.bd 6), .d (v.bd 7), .d (v.bd 8), .d (v.bd 9), .d (v.bd 10), .d (v.bd 11), .d (v.bd 12), .d (v.bd 13), .d (v.bd 14), .d (v.bd 15), .d (v.bd 16), .d (v.bd 17), .d (v.bd 18)]], [[.d (.sl v.R), .d (I v.gk)]], [], 0⟩)
    (ho : Bx.ok ⟨v.f, v.h, v.a0, v.b0, v.a1, v.b1, v.p0, v.p1, v.l0, v.l1, v.s0, v.s1⟩) (hf : Bx.fine ⟨v.f, v.h, v.a0, v.b0, v.a1, v.b1, v.p0, v.p1, v.l0, v.l1, v.s0, v.s1⟩) : H5 v L :=
  ⟨hN, hgk, e40a, h17, h18, ho, hf, (Bx.swap_both ho hf).1, (Bx.swap_both ho hf).2, (asked_ok ho hf).1, (asked_ok ho hf).2, (Bx.swap_both (asked_ok ho hf).1 (asked_ok ho hf).2).1, (Bx.swap_both (asked_ok ho hf).1 (asked_ok ho hf).2).2⟩
theorem hv5 {v : Va5} (ho : Bx.ok ⟨v.f, v.h, v.a0, v.b0, v.a1, v.b1, v.p0, v.p1, v.l0, v.l1, v.s0, v.s1⟩) (hf : Bx.fine ⟨v.f, v.h, v.a0, v.b0, v.a1, v.b1, v.p0, v.p1, v.l0, v.l1, v.s0, v.s1⟩) : (k5_1 v) = true := ins_self _ (asked_ok ho hf).1 (asked_ok ho hf).2
theorem hue5 {v : Va5} (ho : Bx.ok ⟨v.f, v.h, v.a0, v.b0, v.a1, v.b1, v.p0, v.p1, v.l0, v.l1, v.s0, v.s1⟩) (hf : Bx.fine ⟨v.f, v.h, v.a0, v.b0, v.a1, v.b1, v.p0, v.p1, v.l0, v.l1, v.s0, v.s1⟩) : (k5_13 v) = (k5_0 v) := by
  have g1 := hf.p0
  have g2 := hf.p01
  have g3 := hf.p1
  simp only at g1 g2 g3
  have hy := (asked_ok ho hf).1
  have hq : v.p0 ≤ (if v.p0 < wF (v.p1 - 1) then wF (v.p1 - 1) else v.p0) ∧ (if v.p0 < wF (v.p1 - 1) then wF (v.p1 - 1) else v.p0) ≤ v.p1 := by
    rw [wF_in (n := v.p1 - 1) (by omega) (by omega)]
    constructor <;> split <;> omega
  have h := ins_asked ho hf hq.1 hq.2 hy
  refine Eq.trans h ?_
  simp only [k5_0, beq_self_eq_true, Bool.true_and, Bool.and_true]
/-- the law ChildRefuses -/
theorem e5 {l : List Int} (hB : ByteL l) (wh : Int) (hw : 0 ≤ wh) : CV VP 5 [.d (byteD l), .d (.lit (.int .u8 wh))] [] = some ⟨.d (B true), [], [], 0⟩ := by
  have hb : Bytes (l.take 60) := bytes_take hB 60 (by decide)
  have hN := nx_of hb
  have h17 := e21 (l := l) 60 (by decide)
  obtain ⟨pre, x, more, tail, hr, hp, hm, ht, ho, hf⟩ := ruS_shape hb (s := 0) (by decide) (by decide) (nxA (l.take 60) 0)
  have h18 := e36b hb 0 0 [[]] CtxOk.base
  rw [show (gaF (l.take 60) 0).1.1 = gwN 0 1 2 (ruS (l.take 60) 0 (nxA (l.take 60) 0)).1 (grpA (nxV (l.take 60) 0 12).toNat) from rfl, hr] at h18
  generalize (gaF (l.take 60) 0).1.2 = g2 at h18
  generalize (gaF (l.take 60) 0).2 = gk at h18
  generalize grpA (nxV (l.take 60) 0 12).toNat = gs at h18
  obtain ⟨xf, xh, xa0, xb0, xa1, xb1, xp0, xp1, xl0, xl1, xr0, xr1⟩ := x
  clear hr
  match pre, hp with
  | [], _ =>
    match more, hm with
    | [], _ =>
      rcases ht with rfl | rfl
      · exact s5_0 (v := Va5.mk ((l.take 60).map byteRow) (l.map byteRow) _ _ (gk : Nat) xf xh xa0 xb0 xa1 xb1 xp0 xp1 xl0 xl1 xr0 xr1 wh (.sl (gs.map numRow)) (fun i => g2.cells.getD i (I 0)) [] [] [] (.lit (.string ⟨#[]⟩)) (.sl [bypass.row])) (H5_of hN (Int.natCast_nonneg _) h17 h18 ho hf) hw (hv5 ho hf) (hue5 ho hf)
      · exact s5_1 (v := Va5.mk ((l.take 60).map byteRow) (l.map byteRow) _ _ (gk : Nat) xf xh xa0 xb0 xa1 xb1 xp0 xp1 xl0 xl1 xr0 xr1 wh (.sl (gs.map numRow)) (fun i => g2.cells.getD i (I 0)) [] [] [] (.lit (.string ⟨#[]⟩)) (.sl [bypass.row])) (H5_of hN (Int.natCast_nonneg _) h17 h18 ho hf) hw (hv5 ho hf) (hue5 ho hf)
    | [y], _ =>
      rcases ht with rfl | rfl
      · exact s5_2 (v := Va5.mk ((l.take 60).map byteRow) (l.map byteRow) _ _ (gk : Nat) xf xh xa0 xb0 xa1 xb1 xp0 xp1 xl0 xl1 xr0 xr1 wh (.sl (gs.map numRow)) (fun i => g2.cells.getD i (I 0)) [] [] y.row (.lit (.string ⟨#[]⟩)) (.sl [bypass.row])) (H5_of hN (Int.natCast_nonneg _) h17 h18 ho hf) hw (hv5 ho hf) (hue5 ho hf)
      · exact s5_3 (v := Va5.mk ((l.take 60).map byteRow) (l.map byteRow) _ _ (gk : Nat) xf xh xa0 xb0 xa1 xb1 xp0 xp1 xl0 xl1 xr0 xr1 wh (.sl (gs.map numRow)) (fun i => g2.cells.getD i (I 0)) [] [] y.row (.lit (.string ⟨#[]⟩)) (.sl [bypass.row])) (H5_of hN (Int.natCast_nonneg _) h17 h18 ho hf) hw (hv5 ho hf) (hue5 ho hf)
    | _ :: _ :: _, hm => exact absurd hm (by simp)
  | [u], _ =>
    match more, hm with
    | [], _ =>
      rcases ht with rfl | rfl
      · exact s5_4 (v := Va5.mk ((l.take 60).map byteRow) (l.map byteRow) _ _ (gk : Nat) xf xh xa0 xb0 xa1 xb1 xp0 xp1 xl0 xl1 xr0 xr1 wh (.sl (gs.map numRow)) (fun i => g2.cells.getD i (I 0)) u.row [] [] (.lit (.string ⟨#[]⟩)) (.sl [bypass.row])) (H5_of hN (Int.natCast_nonneg _) h17 h18 ho hf) hw (hv5 ho hf) (hue5 ho hf)
      · exact s5_5 (v := Va5.mk ((l.take 60).map byteRow) (l.map byteRow) _ _ (gk : Nat) xf xh xa0 xb0 xa1 xb1 xp0 xp1 xl0 xl1 xr0 xr1 wh (.sl (gs.map numRow)) (fun i => g2.cells.getD i (I 0)) u.row [] [] (.lit (.string ⟨#[]⟩)) (.sl [bypass.row])) (H5_of hN (Int.natCast_nonneg _) h17 h18 ho hf) hw (hv5 ho hf) (hue5 ho hf)
    | [y], _ =>
      rcases ht with rfl | rfl
      · exact s5_6 (v := Va5.mk ((l.take 60).map byteRow) (l.map byteRow) _ _ (gk : Nat) xf xh xa0 xb0 xa1 xb1 xp0 xp1 xl0 xl1 xr0 xr1 wh (.sl (gs.map numRow)) (fun i => g2.cells.getD i (I 0)) u.row [] y.row (.lit (.string ⟨#[]⟩)) (.sl [bypass.row])) (H5_of hN (Int.natCast_nonneg _) h17 h18 ho hf) hw (hv5 ho hf) (hue5 ho hf)
      · exact s5_7 (v := Va5.mk ((l.take 60).map byteRow) (l.map byteRow) _ _ (gk : Nat) xf xh xa0 xb0 xa1 xb1 xp0 xp1 xl0 xl1 xr0 xr1 wh (.sl (gs.map numRow)) (fun i => g2.cells.getD i (I 0)) u.row [] y.row (.lit (.string ⟨#[]⟩)) (.sl [bypass.row])) (H5_of hN (Int.natCast_nonneg _) h17 h18 ho hf) hw (hv5 ho hf) (hue5 ho hf)
    | _ :: _ :: _, hm => exact absurd hm (by simp)
  | [u, u2], _ =>
    match more, hm with
    | [], _ =>
      rcases ht with rfl | rfl
      · exact s5_8 (v := Va5.mk ((l.take 60).map byteRow) (l.map byteRow) _ _ (gk : Nat) xf xh xa0 xb0 xa1 xb1 xp0 xp1 xl0 xl1 xr0 xr1 wh (.sl (gs.map numRow)) (fun i => g2.cells.getD i (I 0)) u.row u2.row [] (.lit (.string ⟨#[]⟩)) (.sl [bypass.row])) (H5_of hN (Int.natCast_nonneg _) h17 h18 ho hf) hw (hv5 ho hf) (hue5 ho hf)
      · exact s5_9 (v := Va5.mk ((l.take 60).map byteRow) (l.map byteRow) _ _ (gk : Nat) xf xh xa0 xb0 xa1 xb1 xp0 xp1 xl0 xl1 xr0 xr1 wh (.sl (gs.map numRow)) (fun i => g2.cells.getD i (I 0)) u.row u2.row [] (.lit (.string ⟨#[]⟩)) (.sl [bypass.row])) (H5_of hN (Int.natCast_nonneg _) h17 h18 ho hf) hw (hv5 ho hf) (hue5 ho hf)
    | [y], _ =>
      rcases ht with rfl | rfl
      · exact s5_10 (v := Va5.mk ((l.take 60).map byteRow) (l.map byteRow) _ _ (gk : Nat) xf xh xa0 xb0 xa1 xb1 xp0 xp1 xl0 xl1 xr0 xr1 wh (.sl (gs.map numRow)) (fun i => g2.cells.getD i (I 0)) u.row u2.row y.row (.lit (.string ⟨#[]⟩)) (.sl [bypass.row])) (H5_of hN (Int.natCast_nonneg _) h17 h18 ho hf) hw (hv5 ho hf) (hue5 ho hf)
      · exact s5_11 (v := Va5.mk ((l.take 60).map byteRow) (l.map byteRow) _ _ (gk : Nat) xf xh xa0 xb0 xa1 xb1 xp0 xp1 xl0 xl1 xr0 xr1 wh (.sl (gs.map numRow)) (fun i => g2.cells.getD i (I 0)) u.row u2.row y.row (.lit (.string ⟨#[]⟩)) (.sl [bypass.row])) (H5_of hN (Int.natCast_nonneg _) h17 h18 ho hf) hw (hv5 ho hf) (hue5 ho hf)
    | _ :: _ :: _, hm => exact absurd hm (by simp)
  | _ :: _ :: _ :: _, hp => exact absurd hp (by simp)
end Go.Proofs.Ytciaehhaglaafaa
