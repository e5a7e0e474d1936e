/- The law ResumeKeys on the machine: it answers true. Conditions: none. -/
import Derived.Test.YtmfhnkhfnlckaaaVd
import Derived.Test.YtmfhnkhfnlckaaaRka
set_option linter.unusedSimpArgs false
set_option linter.unusedVariables false
set_option maxRecDepth 100000
set_option maxHeartbeats 1000000
namespace Go.Proofs.Ytmfhnkhfnlckaaa
open Go.VM
theorem eqF_self (a : Int) : eqF a a = true := by rw [eqF_eq]; simp
theorem k6_0f (ticks now which : Int) (h : eqF (Int.tmod which 4) 0 = true) (hm : Int.tmod which 4 = 0) (hl : leF (Int.tmod (wF now) 40) (Int.tmod (wF ticks) 40) = false) : CV VP 6 [.d (.lit (.int .u8 ticks)), .d (.lit (.int .u8 now)), .d (.lit (.int .u8 which))] [] = some ⟨.d (B true), [], [], 0⟩ := by
  refine CV_V vft_ok noN 400 60 [(76, true), (0, true), (17, true), (0, true), (0, false), (295, true), (22, true), (7, true), (0, false), (0, false), (0, false), (0, false), (0, true), (0, false), (0, true), (0, false), (0, false), (0, true)] [0] (ob := [((!(leF (Int.tmod (wF now) 40) (Int.tmod (wF ticks) 40))), true), (((Int.tmod which 4) != 0), false), (((Int.tmod which 4) != 0), false), (((Int.tmod which 4) != 0), false), (((Int.tmod which 4) != 0), false), (((Int.tmod which 4) != 0), false), (((Int.tmod which 4) != 0), false), (((Int.tmod which 4) != 0), false), ((eqF (Int.tmod (wF now) 40) (Int.tmod (wF now) 40)), true), ((!(leF (Int.tmod (wF now) 40) (Int.tmod (wF ticks) 40))), true), ((eqF (Int.tmod which 4) 0), true)]) (by kernel_rfl) ?_
  repeat' (first | exact Go.VM.OKs.nil | refine Go.VM.OKs.cons ?_ ?_)
  all_goals (simp [eqF_self, h, hm, hl]; done)
theorem k6_0t (ticks now which : Int) (h : eqF (Int.tmod which 4) 0 = true) (hm : Int.tmod which 4 = 0) (hl : leF (Int.tmod (wF now) 40) (Int.tmod (wF ticks) 40) = true) : CV VP 6 [.d (.lit (.int .u8 ticks)), .d (.lit (.int .u8 now)), .d (.lit (.int .u8 which))] [] = some ⟨.d (B true), [], [], 0⟩ := by
  refine CV_V vft_ok noN 400 60 [(76, true), (0, true), (17, true), (0, true), (0, false), (295, false), (165, true), (38, true), (104, true), (1, true), (0, false), (0, false), (0, false), (0, false), (0, true), (0, false), (0, true), (0, false), (0, false), (0, false), (1079, false), (0, false), (0, false), (0, false), (0, false), (0, false), (0, false), (0, false)] [0] (ob := [((!(eqF (Int.tmod (wF ticks) 40) (Int.tmod (wF ticks) 40))), false), ((!(eqF (Int.tmod (wF ticks) 40) (Int.tmod (wF ticks) 40))), false), ((!(eqF (Int.tmod (wF ticks) 40) (Int.tmod (wF ticks) 40))), false), ((!(eqF (Int.tmod (wF ticks) 40) (Int.tmod (wF ticks) 40))), false), ((!(eqF (Int.tmod (wF ticks) 40) (Int.tmod (wF ticks) 40))), false), ((!(eqF (Int.tmod (wF ticks) 40) (Int.tmod (wF ticks) 40))), false), ((!(eqF (Int.tmod (wF ticks) 40) (Int.tmod (wF ticks) 40))), false), ((!(eqF (Int.tmod (wF ticks) 40) (Int.tmod (wF ticks) 40))), false), ((!(leF (Int.tmod (wF now) 40) (Int.tmod (wF ticks) 40))), false), (((Int.tmod which 4) != 0), false), (((Int.tmod which 4) != 0), false), (((Int.tmod which 4) != 0), false), (((Int.tmod which 4) != 0), false), (((Int.tmod which 4) != 0), false), (((Int.tmod which 4) != 0), false), (((Int.tmod which 4) != 0), false), ((eqF (Int.tmod (wF now) 40) (Int.tmod (wF now) 40)), true), ((eqF (Int.tmod (wF ticks) 40) (Int.tmod (wF ticks) 40)), true), ((eqF (Int.tmod (wF now) 40) (Int.tmod (wF now) 40)), true), ((!(leF (Int.tmod (wF now) 40) (Int.tmod (wF ticks) 40))), false), ((eqF (Int.tmod which 4) 0), true)]) (by kernel_rfl) ?_
  repeat' (first | exact Go.VM.OKs.nil | refine Go.VM.OKs.cons ?_ ?_)
  all_goals (simp [eqF_self, h, hm, hl]; done)
theorem k6_1 (ticks now which : Int) (h : eqF (Int.tmod which 4) 1 = true) (hm : Int.tmod which 4 = 1) : CV VP 6 [.d (.lit (.int .u8 ticks)), .d (.lit (.int .u8 now)), .d (.lit (.int .u8 which))] [] = some ⟨.d (B true), [], [], 0⟩ := by
  refine CV_V vft_ok noN 400 60 [(76, true), (0, true), (17, true), (0, true), (0, false), (277, true), (7, true), (0, true), (0, true), (0, true), (0, true), (0, true), (0, true), (0, true)] [1] (ob := [(((Int.tmod which 4) != 0), true), (((Int.tmod which 4) != 0), true), (((Int.tmod which 4) != 0), true), (((Int.tmod which 4) != 0), true), (((Int.tmod which 4) != 0), true), (((Int.tmod which 4) != 0), true), (((Int.tmod which 4) != 0), true), ((eqF (Int.tmod (wF now) 40) (Int.tmod (wF now) 40)), true), ((eqF (Int.tmod which 4) 1), true)]) (by kernel_rfl) ?_
  repeat' (first | exact Go.VM.OKs.nil | refine Go.VM.OKs.cons ?_ ?_)
  all_goals (simp [eqF_self, h, hm]; done)
theorem k6_2 (ticks now which : Int) (h : eqF (Int.tmod which 4) 2 = true) (hm : Int.tmod which 4 = 2) : CV VP 6 [.d (.lit (.int .u8 ticks)), .d (.lit (.int .u8 now)), .d (.lit (.int .u8 which))] [] = some ⟨.d (B true), [], [], 0⟩ := by
  refine CV_V vft_ok noN 400 60 [(76, true), (0, true), (17, true), (0, true), (0, false), (270, true), (7, true), (0, true), (0, true), (0, true), (0, true), (0, true), (0, true), (0, true)] [2] (ob := [(((Int.tmod which 4) != 0), true), (((Int.tmod which 4) != 0), true), (((Int.tmod which 4) != 0), true), (((Int.tmod which 4) != 0), true), (((Int.tmod which 4) != 0), true), (((Int.tmod which 4) != 0), true), (((Int.tmod which 4) != 0), true), ((eqF (Int.tmod (wF now) 40) (Int.tmod (wF now) 40)), true), ((eqF (Int.tmod which 4) 2), true)]) (by kernel_rfl) ?_
  repeat' (first | exact Go.VM.OKs.nil | refine Go.VM.OKs.cons ?_ ?_)
  all_goals (simp [eqF_self, h, hm]; done)
theorem k6_3 (ticks now which : Int) (h : eqF (Int.tmod which 4) 3 = true) (hm : Int.tmod which 4 = 3) : CV VP 6 [.d (.lit (.int .u8 ticks)), .d (.lit (.int .u8 now)), .d (.lit (.int .u8 which))] [] = some ⟨.d (B true), [], [], 0⟩ := by
  refine CV_V vft_ok noN 400 60 [(76, true), (0, true), (17, true), (0, true), (0, false), (318, true), (7, true), (0, true), (0, true), (0, true), (0, true), (0, true), (0, true), (0, true)] [3] (ob := [(((Int.tmod which 4) != 0), true), (((Int.tmod which 4) != 0), true), (((Int.tmod which 4) != 0), true), (((Int.tmod which 4) != 0), true), (((Int.tmod which 4) != 0), true), (((Int.tmod which 4) != 0), true), (((Int.tmod which 4) != 0), true), ((eqF (Int.tmod (wF now) 40) (Int.tmod (wF now) 40)), true), ((eqF (Int.tmod which 4) 3), true)]) (by kernel_rfl) ?_
  repeat' (first | exact Go.VM.OKs.nil | refine Go.VM.OKs.cons ?_ ?_)
  all_goals (simp [eqF_self, h, hm]; done)
/-- the law ResumeKeys -/
theorem e6 (ticks now which : Int) (w0 : 0 ≤ which) : CV VP 6 [.d (.lit (.int .u8 ticks)), .d (.lit (.int .u8 now)), .d (.lit (.int .u8 which))] [] = some ⟨.d (B true), [], [], 0⟩ := by
  have h2 := Int.tmod_nonneg 4 w0
  have h3 := Int.tmod_lt_of_pos which (b := 4) (by decide)
  have hc : Int.tmod which 4 = 0 ∨ Int.tmod which 4 = 1 ∨ Int.tmod which 4 = 2 ∨ Int.tmod which 4 = 3 := by omega
  rcases hc with hm | hm | hm | hm
  · cases hl : leF (Int.tmod (wF now) 40) (Int.tmod (wF ticks) 40) with
    | true => exact k6_0t ticks now which (by rw [hm]; rfl) hm hl
    | false => exact k6_0f ticks now which (by rw [hm]; rfl) hm hl
  · exact k6_1 ticks now which (by rw [hm]; rfl) hm
  · exact k6_2 ticks now which (by rw [hm]; rfl) hm
  · exact k6_3 ticks now which (by rw [hm]; rfl) hm
end Go.Proofs.Ytmfhnkhfnlckaaa
