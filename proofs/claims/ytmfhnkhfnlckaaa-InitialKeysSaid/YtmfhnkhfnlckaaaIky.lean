/- The sanity check of the law InitialKeys on the machine. Conditions: none. -/
import Derived.Test.YtmfhnkhfnlckaaaVd
import Derived.Test.YtmfhnkhfnlckaaaIka
set_option linter.unusedSimpArgs false
set_option maxRecDepth 100000
namespace Go.Proofs.Ytmfhnkhfnlckaaa
open Go.VM
theorem e47 : CV VP 47 [] [] = some ⟨.d (B true), [], [], 0⟩ := CV_F0 vft_ok 400 60 (by kernel_rfl)
def N47 : Orc := fun f a b => match Nat.beq f 47 with
  | true => match a with
    | [] => match b with
      | [] => some ⟨.d (B true), [], [], 0⟩
      | _ :: _ => none
    | _ :: _ => none
  | false => none
theorem N47_ok : ∀ f a b r, N47 f a b = some r → CV VP f a b = some r := by
  intro f a b r h
  unfold N47 at h
  split at h
  · rename_i hf
    rw [Nat.eq_of_beq_eq_true hf]
    split at h
    · split at h
      · simp only [Option.some.injEq] at h
        subst h
        exact e47
      · cases h
    · cases h
  · cases h
end Go.Proofs.Ytmfhnkhfnlckaaa
