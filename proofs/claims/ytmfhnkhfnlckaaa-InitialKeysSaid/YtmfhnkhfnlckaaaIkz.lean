/- The law InitialKeys on the machine: it answers true. Conditions: none. -/
import Derived.Test.YtmfhnkhfnlckaaaVd
import Derived.Test.YtmfhnkhfnlckaaaIkya
import Derived.Test.YtmfhnkhfnlckaaaIkyb
import Derived.Test.YtmfhnkhfnlckaaaIkyc
import Derived.Test.YtmfhnkhfnlckaaaIkyd
set_option linter.unusedSimpArgs false
set_option maxRecDepth 100000
namespace Go.Proofs.Ytmfhnkhfnlckaaa
open Go.VM
theorem mod3 {f : Int} (h0 : 0 ≤ f) (h1 : f ≤ 255) : eqF (Int.tmod (wF f) 3) 0 = true ∨ eqF (Int.tmod (wF f) 3) 1 = true ∨ eqF (Int.tmod (wF f) 3) 2 = true := by
  have hw : wF f = f := by rw [wF_eq]; exact w_in (by omega) (by omega)
  have h2 := Int.tmod_nonneg 3 h0
  have h3 := Int.tmod_lt_of_pos f (b := 3) (by decide)
  rw [hw]
  simp only [eqF_eq, beq_iff_eq]
  omega
/-- the law InitialKeys -/
theorem e8 (f s : Int) (c : Bool) (f0 : 0 ≤ f) (f1 : f ≤ 255) (s0 : 0 ≤ s) (s1 : s ≤ 255) : CV VP 8 [.d (.lit (.int .u8 f)), .d (.lit (.int .u8 s)), .d (B c)] [] = some ⟨.d (B true), [], [], 0⟩ := by
  rcases mod3 f0 f1 with hf | hf | hf <;> rcases mod3 s0 s1 with hs | hs | hs <;> cases c
  · exact k8_00f f s false hf hs rfl
  · exact k8_00t f s true hf hs rfl
  · exact k8_01f f s false hf hs rfl
  · exact k8_01t f s true hf hs rfl
  · exact k8_02f f s false hf hs rfl
  · exact k8_02t f s true hf hs rfl
  · exact k8_10f f s false hf hs rfl
  · exact k8_10t f s true hf hs rfl
  · exact k8_11f f s false hf hs rfl
  · exact k8_11t f s true hf hs rfl
  · exact k8_12f f s false hf hs rfl
  · exact k8_12t f s true hf hs rfl
  · exact k8_20f f s false hf hs rfl
  · exact k8_20t f s true hf hs rfl
  · exact k8_21f f s false hf hs rfl
  · exact k8_21t f s true hf hs rfl
  · exact k8_22f f s false hf hs rfl
  · exact k8_22t f s true hf hs rfl
end Go.Proofs.Ytmfhnkhfnlckaaa
