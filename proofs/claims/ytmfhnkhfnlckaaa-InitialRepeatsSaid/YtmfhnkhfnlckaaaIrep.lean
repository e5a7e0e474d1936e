/- The law InitialRepeats on the machine: it answers true. Conditions: none. -/
import Derived.Test.YtmfhnkhfnlckaaaVd
import Derived.Test.YtmfhnkhfnlckaaaIra
set_option linter.unusedSimpArgs false
set_option maxRecDepth 100000
namespace Go.Proofs.Ytmfhnkhfnlckaaa
open Go.VM
theorem eqF_self (a : Int) : eqF a a = true := by rw [eqF_eq]; simp
theorem eqF_comm (a b : Int) : eqF a b = eqF b a := by
  rw [eqF_eq, eqF_eq, Bool.eq_iff_iff, beq_iff_eq, beq_iff_eq]
  exact ⟨Eq.symm, Eq.symm⟩
/-- the law InitialRepeats: from the request's own address, and from another one -/
theorem e7 (fr : Int) : CV VP 7 [.d (.lit (.int .u8 fr))] [] = some ⟨.d (B true), [], [], 0⟩ := by
  have hr := eqF_self (wF (1 + (wF fr)))
  have hc := eqF_comm (wF (1 + (wF fr))) 1
  cases h : eqF 1 (wF (1 + (wF fr))) with
  | true =>
    refine CV_F vft_ok noN 400 60 [(1971, true), (0, true), (280, true), (0, true), (0, true), (0, true), (439, true), (2267, false), (0, true)] (ob := [((eqF (wF (1 + (wF fr))) 1), true), ((!(eqF (wF (1 + (wF fr))) (wF (1 + (wF fr))))), false), ((eqF 1 (wF (1 + (wF fr)))), true), ((eqF 1 (wF (1 + (wF fr)))), true), ((eqF 1 (wF (1 + (wF fr)))), true), ((eqF 1 (wF (1 + (wF fr)))), true), ((eqF 1 (wF (1 + (wF fr)))), true)]) (by kernel_rfl) ?_
    rw [hc, hr, h]
    simp [OKs]
  | false =>
    refine CV_F vft_ok noN 400 60 [(1971, true), (0, true), (280, false), (0, false), (0, false), (0, false), (0, false), (2505, false), (0, false)] (ob := [((eqF (wF (1 + (wF fr))) 1), false), ((!(eqF (wF (1 + (wF fr))) (wF (1 + (wF fr))))), false), ((eqF 1 (wF (1 + (wF fr)))), false), ((eqF 1 (wF (1 + (wF fr)))), false), ((eqF 1 (wF (1 + (wF fr)))), false), ((eqF 1 (wF (1 + (wF fr)))), false), ((eqF 1 (wF (1 + (wF fr)))), false)]) (by kernel_rfl) ?_
    rw [hc, hr, h]
    simp [OKs]
end Go.Proofs.Ytmfhnkhfnlckaaa
