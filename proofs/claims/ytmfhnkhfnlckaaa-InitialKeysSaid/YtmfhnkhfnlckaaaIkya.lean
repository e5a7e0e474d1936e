/- The law InitialKeys on the machine: some of its eighteen runs. Conditions: the remainders of the arguments. -/
import Derived.Test.YtmfhnkhfnlckaaaVd
import Derived.Test.YtmfhnkhfnlckaaaIky
set_option linter.unusedSimpArgs false
set_option maxRecDepth 100000
namespace Go.Proofs.Ytmfhnkhfnlckaaa
open Go.VM
theorem k8_00t (f s : Int) (c : Bool) (h1 : eqF (Int.tmod (wF f) 3) 0 = true) (h2 : eqF (Int.tmod (wF s) 3) 0 = true) (h3 : c = true) : CV VP 8 [.d (.lit (.int .u8 f)), .d (.lit (.int .u8 s)), .d (B c)] [] = some ⟨.d (B true), [], [], 0⟩ :=
  CV_V vft_ok N47_ok 400 60 [(1, true), (0, false), (0, true), (0, false), (8, true)] [0, 0] (ob := [(c, true), ((eqF (Int.tmod (wF s) 3) 0), true), ((eqF (Int.tmod (wF f) 3) 0), true)]) (by kernel_rfl) (.cons h3 (.cons h2 (.cons h1 .nil)))
theorem k8_02t (f s : Int) (c : Bool) (h1 : eqF (Int.tmod (wF f) 3) 0 = true) (h2 : eqF (Int.tmod (wF s) 3) 2 = true) (h3 : c = true) : CV VP 8 [.d (.lit (.int .u8 f)), .d (.lit (.int .u8 s)), .d (B c)] [] = some ⟨.d (B true), [], [], 0⟩ :=
  CV_V vft_ok N47_ok 400 60 [(1, true), (0, false), (0, true), (0, false), (8, true)] [0, 2] (ob := [(c, true), ((eqF (Int.tmod (wF s) 3) 2), true), ((eqF (Int.tmod (wF f) 3) 0), true)]) (by kernel_rfl) (.cons h3 (.cons h2 (.cons h1 .nil)))
theorem k8_11t (f s : Int) (c : Bool) (h1 : eqF (Int.tmod (wF f) 3) 1 = true) (h2 : eqF (Int.tmod (wF s) 3) 1 = true) (h3 : c = true) : CV VP 8 [.d (.lit (.int .u8 f)), .d (.lit (.int .u8 s)), .d (B c)] [] = some ⟨.d (B true), [], [], 0⟩ :=
  CV_V vft_ok N47_ok 400 60 [(1, true), (0, false), (0, true), (0, false), (8, true)] [1, 1] (ob := [(c, true), ((eqF (Int.tmod (wF s) 3) 1), true), ((eqF (Int.tmod (wF f) 3) 1), true)]) (by kernel_rfl) (.cons h3 (.cons h2 (.cons h1 .nil)))
theorem k8_20t (f s : Int) (c : Bool) (h1 : eqF (Int.tmod (wF f) 3) 2 = true) (h2 : eqF (Int.tmod (wF s) 3) 0 = true) (h3 : c = true) : CV VP 8 [.d (.lit (.int .u8 f)), .d (.lit (.int .u8 s)), .d (B c)] [] = some ⟨.d (B true), [], [], 0⟩ :=
  CV_V vft_ok N47_ok 400 60 [(1, true), (0, false), (0, true), (0, false), (8, true)] [2, 0] (ob := [(c, true), ((eqF (Int.tmod (wF s) 3) 0), true), ((eqF (Int.tmod (wF f) 3) 2), true)]) (by kernel_rfl) (.cons h3 (.cons h2 (.cons h1 .nil)))
theorem k8_22t (f s : Int) (c : Bool) (h1 : eqF (Int.tmod (wF f) 3) 2 = true) (h2 : eqF (Int.tmod (wF s) 3) 2 = true) (h3 : c = true) : CV VP 8 [.d (.lit (.int .u8 f)), .d (.lit (.int .u8 s)), .d (B c)] [] = some ⟨.d (B true), [], [], 0⟩ :=
  CV_V vft_ok N47_ok 400 60 [(1, true), (0, false), (0, true), (0, false), (8, true)] [2, 2] (ob := [(c, true), ((eqF (Int.tmod (wF s) 3) 2), true), ((eqF (Int.tmod (wF f) 3) 2), true)]) (by kernel_rfl) (.cons h3 (.cons h2 (.cons h1 .nil)))
end Go.Proofs.Ytmfhnkhfnlckaaa
