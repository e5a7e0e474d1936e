/- The law AuthBegins on the machine: it answers true. Conditions: the terms come of the program. -/
import Derived.Test.YtgiciiknagelhaaVd
import Derived.Test.YtgiciiknagelhaaAbz
set_option linter.unusedSimpArgs false
set_option linter.unusedVariables false
set_option maxRecDepth 100000
set_option maxHeartbeats 4000000
namespace Go.Proofs.Ytgiciiknagelhaa
open Go.VM
theorem e3L {l : List Int} (hB : ByteL l) (id : Int) (mt nt : Tm) (hm : mt.big) (hnt : nt.big) : CV VP 3 [.d (byteD l), .d (I id), .agg (mt.row.map .d), .agg (nt.row.map .d)] [] = some ⟨.d (B true), [], [], 0⟩ := by
  have hpr : CV VP 17 [.agg ((Tm.mk 8 id [Tm.mk 3 0 [mt, nt, Tm.mk 1 id []]]).row.map .d), .agg ((Tm.mk 8 id [Tm.mk 3 0 [mt, nt, Tm.mk 1 id []]]).row.map .d)] [] = some ⟨.d (B true), [], [], 0⟩ := by
    have h := e19B _ (Tm.mk 8 id [Tm.mk 3 0 [mt, nt, Tm.mk 1 id []]]) (Tm.mk 8 id [Tm.mk 3 0 [mt, nt, Tm.mk 1 id []]]) (Nat.lt_succ_self _) (by
      refine ⟨by simp, ⟨by simp, hm, hnt, ⟨by simp, trivial⟩, trivial⟩, trivial⟩)
    rwa [Tm.eqb_self] at h
  obtain ⟨mo, mv, ms⟩ := mt
  obtain ⟨no, nv, ns⟩ := nt
  have hb : Bytes (l.take 200) := bytes_take hB 200 (by decide)
  have h11 := e21 (l := l) 200 (by decide)
  obtain ⟨ra, rb, i, gk, x, more, n, hri, ho, hf, hrf, hrfa, hrl, hn, ⟨pre, tail, hra1, hra2, hra3, hra4⟩, h12⟩ := e37r ⟨I mo, I mv, .sl (Tm.rows ms), I no, I nv, .sl (Tm.rows ns)⟩ hb
  have h61 := e96 ra (by rw [hra1]; simp; omega) (fun r hr => by have := (hrfa r hr).len; omega)
  have f1 := hf.a0
  have f2 := hf.b0
  have f3 := hf.a1
  have f4 := hf.b1
  have f5 := hf.ab0
  have f6 := hf.ab1
  have f7 := ho.fam
  have wh : wF x.h = x.h := wF_in (by omega) (by omega)
  have w1 : wF x.a0 = x.a0 := wF_in (by omega) (by omega)
  have w2 : wF x.b0 = x.b0 := wF_in (by omega) (by omega)
  have w3 : wF x.a1 = x.a1 := wF_in (by omega) (by omega)
  have w4 : wF x.b1 = x.b1 := wF_in (by omega) (by omega)
  clear f1 f2 f3 f4 f5 f6 f7 hri hrf hrfa
  subst hra1 hra2
  obtain ⟨xf, xh, xa0, xb0, xa1, xb1, xp0, xp1, xl0, xl1, xr0, xr1⟩ := x
  have H : ∀ ro rp rt, HB (VaB.mk ((l.take 200).map byteRow) (l.map byteRow) (rb.map Ru.row) (((⟨xf, xh, xa0, xb0, xa1, xb1, xp0, xp1, xl0, xl1, xr0, xr1⟩ : Bx) :: more).map Bx.row) ro rp rt (gk : Nat) xf xh xa0 xb0 xa1 xb1 xp0 xp1 xl0 xl1 xr0 xr1 id mo mv no nv (Tm.rows ms) (Tm.rows ns)) := fun ro rp rt => ⟨h11, ho, hf, wh, w1, w2, w3, w4, hpr⟩
  match pre, hra3 with
  | [], _ =>
    match tail, hra4 with
    | [], _ =>
      match n, hn with
      | 0, _ => exact rb3_0_00 (H [] [] []) h12 h61
      | 1, _ => exact rb3_1_00 (H [] [] []) h12 h61
      | 2, _ => exact rb3_2_00 (H [] [] []) h12 h61
      | 3, _ => exact rb3_3_00 (H [] [] []) h12 h61
      | 4, _ => exact rb3_4_00 (H [] [] []) h12 h61
      | 5, _ => exact rb3_5_00 (H [] [] []) h12 h61
      | _ + 6, h => exact absurd h (by omega)
    | [c], _ =>
      match n, hn with
      | 0, _ => exact rb3_0_01 (H [] [] c.row) h12 h61
      | 1, _ => exact rb3_1_01 (H [] [] c.row) h12 h61
      | 2, _ => exact rb3_2_01 (H [] [] c.row) h12 h61
      | 3, _ => exact rb3_3_01 (H [] [] c.row) h12 h61
      | 4, _ => exact rb3_4_01 (H [] [] c.row) h12 h61
      | 5, _ => exact rb3_5_01 (H [] [] c.row) h12 h61
      | _ + 6, h => exact absurd h (by omega)
    | _ :: _ :: _, h => exact absurd h (by simp)
  | [a], _ =>
    match tail, hra4 with
    | [], _ =>
      match n, hn with
      | 0, _ => exact rb3_0_10 (H a.row [] []) h12 h61
      | 1, _ => exact rb3_1_10 (H a.row [] []) h12 h61
      | 2, _ => exact rb3_2_10 (H a.row [] []) h12 h61
      | 3, _ => exact rb3_3_10 (H a.row [] []) h12 h61
      | 4, _ => exact rb3_4_10 (H a.row [] []) h12 h61
      | 5, _ => exact rb3_5_10 (H a.row [] []) h12 h61
      | _ + 6, h => exact absurd h (by omega)
    | [c], _ =>
      match n, hn with
      | 0, _ => exact rb3_0_11 (H a.row [] c.row) h12 h61
      | 1, _ => exact rb3_1_11 (H a.row [] c.row) h12 h61
      | 2, _ => exact rb3_2_11 (H a.row [] c.row) h12 h61
      | 3, _ => exact rb3_3_11 (H a.row [] c.row) h12 h61
      | 4, _ => exact rb3_4_11 (H a.row [] c.row) h12 h61
      | 5, _ => exact rb3_5_11 (H a.row [] c.row) h12 h61
      | _ + 6, h => exact absurd h (by omega)
    | _ :: _ :: _, h => exact absurd h (by simp)
  | [a, b], _ =>
    match tail, hra4 with
    | [], _ =>
      match n, hn with
      | 0, _ => exact rb3_0_20 (H a.row b.row []) h12 h61
      | 1, _ => exact rb3_1_20 (H a.row b.row []) h12 h61
      | 2, _ => exact rb3_2_20 (H a.row b.row []) h12 h61
      | 3, _ => exact rb3_3_20 (H a.row b.row []) h12 h61
      | 4, _ => exact rb3_4_20 (H a.row b.row []) h12 h61
      | 5, _ => exact rb3_5_20 (H a.row b.row []) h12 h61
      | _ + 6, h => exact absurd h (by omega)
    | [c], _ =>
      match n, hn with
      | 0, _ => exact rb3_0_21 (H a.row b.row c.row) h12 h61
      | 1, _ => exact rb3_1_21 (H a.row b.row c.row) h12 h61
      | 2, _ => exact rb3_2_21 (H a.row b.row c.row) h12 h61
      | 3, _ => exact rb3_3_21 (H a.row b.row c.row) h12 h61
      | 4, _ => exact rb3_4_21 (H a.row b.row c.row) h12 h61
      | 5, _ => exact rb3_5_21 (H a.row b.row c.row) h12 h61
      | _ + 6, h => exact absurd h (by omega)
    | _ :: _ :: _, h => exact absurd h (by simp)
  | _ :: _ :: _ :: _, h => exact absurd h (by simp)
end Go.Proofs.Ytgiciiknagelhaa
