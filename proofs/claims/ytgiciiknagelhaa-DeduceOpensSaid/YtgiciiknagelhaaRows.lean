/-
  NARROWER THAN 'FOR EVERY INPUT', by the rows' own cells (each row's printed sentence says how): AuthBegins: loops.
  DERIVED. THE GIVEN ROWS OF THIS SEAT. 7 by the template 'for every input the law returns true; each argument reads behind the call as it read before'; 0 by the template 'total and deterministic' (their statements: YtgiciiknagelhaaTotals.lean).
  GIVEN WITH THE SEED: the statements are not yours to turn. If you find one false, say at which input.
  Laid BY PROGRAM, IN A SANDBOX (cutbox-rows.mjs): the forced cells as the released guide's own fill.sh prints them over the translation b22a7a9502ed3527… (all of the seat's roots in one cut). By AI agents, Wed Nov 11 2026. No macro, syntax, notation, axiom, sorry.
-/
import Derived.Test.YtgiciiknagelhaaChecked
import GoSem.Claim
import GoSem.ClaimJoined
import GoSem.ClaimMapViews
import Derived.JoinedTies
import Derived.KernelRfl
namespace Go.Proofs.Ytgiciiknagelhaa
/- THE CELL 'sum', in the pinned program and in every row, IS THE sha256 OF THE DUMP (.gsa) THAT YtgiciiknagelhaaProg.lean LOADS. Nothing in Lean hashes anything: it is a label: what it is worth is what the hold of that sum in a sandbox is worth. -/
noncomputable def Try.pinned : Pinned := { name := "ytgiciiknagelhaa", sum := "b22a7a9502ed3527b0c163e4d86eb9b73bd006e60456b06d4bcdc535009dc571", checked := Try.checked }
namespace Rows
def none {H : Type} : Left H := { results := [], args := [] }

/-- 'ipsecgatelaw34.AuthBegins': WHATEVER THE INPUT: true; the input reads as it did. -/
def authBeginsSpec : ChangeSpec := { name := "authBegins", fn := fun _ => fun
  | [d1, d2, d3, d4] => { results := [.lit (.bool true)], args := [d1, d2, d3, d4] }
  | _ => none }
def authBeginsRow : OpenClaim := { program := "ytgiciiknagelhaa", sum := "b22a7a9502ed3527b0c163e4d86eb9b73bd006e60456b06d4bcdc535009dc571", func := "ipsecgate/ipsecgatelaw34.AuthBegins", spec := "authBegins", unfollowed := true, recurses := true, loops := true, apart := false }
def AuthBeginsSaid : Prop := authBeginsRow.holds Try.pinned (OpenSpec.ofChange authBeginsSpec)

/-- ITS FALSE NEIGHBOUR: 'it returns false'. Refute it at one input. -/
def authBeginsWrong : ChangeSpec := { name := "authBegins", fn := fun _ => fun
  | [d1, d2, d3, d4] => { results := [.lit (.bool false)], args := [d1, d2, d3, d4] }
  | _ => none }
def AuthBeginsWrongFalsely : Prop := authBeginsRow.holds Try.pinned (OpenSpec.ofChange authBeginsWrong)

/-- 'ipsecgatelaw41.DataplaneNumbers': WHATEVER THE INPUT: true; the input reads as it did. -/
def dataplaneNumbersSpec : ChangeSpec := { name := "dataplaneNumbers", fn := fun _ => fun
  | [d1, d2] => { results := [.lit (.bool true)], args := [d1, d2] }
  | _ => none }
def dataplaneNumbersRow : OpenClaim := { program := "ytgiciiknagelhaa", sum := "b22a7a9502ed3527b0c163e4d86eb9b73bd006e60456b06d4bcdc535009dc571", func := "ipsecgate/ipsecgatelaw41.DataplaneNumbers", spec := "dataplaneNumbers", unfollowed := true, recurses := true, apart := false }
def DataplaneNumbersSaid : Prop := dataplaneNumbersRow.holds Try.pinned (OpenSpec.ofChange dataplaneNumbersSpec)

/-- ITS FALSE NEIGHBOUR: 'it returns false'. Refute it at one input. -/
def dataplaneNumbersWrong : ChangeSpec := { name := "dataplaneNumbers", fn := fun _ => fun
  | [d1, d2] => { results := [.lit (.bool false)], args := [d1, d2] }
  | _ => none }
def DataplaneNumbersWrongFalsely : Prop := dataplaneNumbersRow.holds Try.pinned (OpenSpec.ofChange dataplaneNumbersWrong)

/-- 'ipsecgatelaw27.DeduceGrows': WHATEVER THE INPUT: true; the input reads as it did. -/
def deduceGrowsSpec : ChangeSpec := { name := "deduceGrows", fn := fun _ => fun
  | [d] => { results := [.lit (.bool true)], args := [d] }
  | _ => none }
def deduceGrowsRow : OpenClaim := { program := "ytgiciiknagelhaa", sum := "b22a7a9502ed3527b0c163e4d86eb9b73bd006e60456b06d4bcdc535009dc571", func := "ipsecgate/ipsecgatelaw27.DeduceGrows", spec := "deduceGrows", inPlace := ["slices.overlaps[ipsecgate/api.Term]"], unfollowed := true, recurses := true, apart := false }
def DeduceGrowsSaid : Prop := deduceGrowsRow.holds Try.pinned (OpenSpec.ofChange deduceGrowsSpec)

/-- ITS FALSE NEIGHBOUR: 'it returns false'. Refute it at one input. -/
def deduceGrowsWrong : ChangeSpec := { name := "deduceGrows", fn := fun _ => fun
  | [d] => { results := [.lit (.bool false)], args := [d] }
  | _ => none }
def DeduceGrowsWrongFalsely : Prop := deduceGrowsRow.holds Try.pinned (OpenSpec.ofChange deduceGrowsWrong)

/-- 'ipsecgatelaw27.DeduceLearns': WHATEVER THE INPUT: true; the input reads as it did. -/
def deduceLearnsSpec : ChangeSpec := { name := "deduceLearns", fn := fun _ => fun
  | [d] => { results := [.lit (.bool true)], args := [d] }
  | _ => none }
def deduceLearnsRow : OpenClaim := { program := "ytgiciiknagelhaa", sum := "b22a7a9502ed3527b0c163e4d86eb9b73bd006e60456b06d4bcdc535009dc571", func := "ipsecgate/ipsecgatelaw27.DeduceLearns", spec := "deduceLearns", inPlace := ["slices.overlaps[ipsecgate/api.Term]"], unfollowed := true, recurses := true, apart := false }
def DeduceLearnsSaid : Prop := deduceLearnsRow.holds Try.pinned (OpenSpec.ofChange deduceLearnsSpec)

/-- ITS FALSE NEIGHBOUR: 'it returns false'. Refute it at one input. -/
def deduceLearnsWrong : ChangeSpec := { name := "deduceLearns", fn := fun _ => fun
  | [d] => { results := [.lit (.bool false)], args := [d] }
  | _ => none }
def DeduceLearnsWrongFalsely : Prop := deduceLearnsRow.holds Try.pinned (OpenSpec.ofChange deduceLearnsWrong)

/-- 'ipsecgatelaw27.DeduceOpens': WHATEVER THE INPUT: true; the input reads as it did. -/
def deduceOpensSpec : ChangeSpec := { name := "deduceOpens", fn := fun _ => fun
  | [d1, d2] => { results := [.lit (.bool true)], args := [d1, d2] }
  | _ => none }
def deduceOpensRow : OpenClaim := { program := "ytgiciiknagelhaa", sum := "b22a7a9502ed3527b0c163e4d86eb9b73bd006e60456b06d4bcdc535009dc571", func := "ipsecgate/ipsecgatelaw27.DeduceOpens", spec := "deduceOpens", inPlace := ["slices.overlaps[ipsecgate/api.Term]"], unfollowed := true, recurses := true, apart := false }
def DeduceOpensSaid : Prop := deduceOpensRow.holds Try.pinned (OpenSpec.ofChange deduceOpensSpec)

/-- ITS FALSE NEIGHBOUR: 'it returns false'. Refute it at one input. -/
def deduceOpensWrong : ChangeSpec := { name := "deduceOpens", fn := fun _ => fun
  | [d1, d2] => { results := [.lit (.bool false)], args := [d1, d2] }
  | _ => none }
def DeduceOpensWrongFalsely : Prop := deduceOpensRow.holds Try.pinned (OpenSpec.ofChange deduceOpensWrong)

/-- 'ipsecgatelaw27.DeduceMakes': WHATEVER THE INPUT: true; the input reads as it did. -/
def deduceMakesSpec : ChangeSpec := { name := "deduceMakes", fn := fun _ => fun
  | [d] => { results := [.lit (.bool true)], args := [d] }
  | _ => none }
def deduceMakesRow : OpenClaim := { program := "ytgiciiknagelhaa", sum := "b22a7a9502ed3527b0c163e4d86eb9b73bd006e60456b06d4bcdc535009dc571", func := "ipsecgate/ipsecgatelaw27.DeduceMakes", spec := "deduceMakes", inPlace := ["slices.overlaps[ipsecgate/api.Term]"], unfollowed := true, recurses := true, apart := false }
def DeduceMakesSaid : Prop := deduceMakesRow.holds Try.pinned (OpenSpec.ofChange deduceMakesSpec)

/-- ITS FALSE NEIGHBOUR: 'it returns false'. Refute it at one input. -/
def deduceMakesWrong : ChangeSpec := { name := "deduceMakes", fn := fun _ => fun
  | [d] => { results := [.lit (.bool false)], args := [d] }
  | _ => none }
def DeduceMakesWrongFalsely : Prop := deduceMakesRow.holds Try.pinned (OpenSpec.ofChange deduceMakesWrong)

/-- 'ipsecgatelaw27.DeduceKeeps': WHATEVER THE INPUT: true; the input reads as it did. -/
def deduceKeepsSpec : ChangeSpec := { name := "deduceKeeps", fn := fun _ => fun
  | [d1, d2] => { results := [.lit (.bool true)], args := [d1, d2] }
  | _ => none }
def deduceKeepsRow : OpenClaim := { program := "ytgiciiknagelhaa", sum := "b22a7a9502ed3527b0c163e4d86eb9b73bd006e60456b06d4bcdc535009dc571", func := "ipsecgate/ipsecgatelaw27.DeduceKeeps", spec := "deduceKeeps", inPlace := ["slices.overlaps[ipsecgate/api.Term]"], unfollowed := true, recurses := true, apart := false }
def DeduceKeepsSaid : Prop := deduceKeepsRow.holds Try.pinned (OpenSpec.ofChange deduceKeepsSpec)

/-- ITS FALSE NEIGHBOUR: 'it returns false'. Refute it at one input. -/
def deduceKeepsWrong : ChangeSpec := { name := "deduceKeeps", fn := fun _ => fun
  | [d1, d2] => { results := [.lit (.bool false)], args := [d1, d2] }
  | _ => none }
def DeduceKeepsWrongFalsely : Prop := deduceKeepsRow.holds Try.pinned (OpenSpec.ofChange deduceKeepsWrong)

/- THE SECOND FORM. 'bulk': how many values and letters a reading holds, each counted each time it is reached (what is shared counts as often as it is met; a slice's spare places count too). A statement '..UptoSaid' is the law's where the arguments, and the package variables that the reading takes, are together of bulk at most 1048576: NARROWER than '..Said'. Prove '..Said' where nothing that the law and all that it calls make is longer than what came in: it says more and counts as full. Else prove '..UptoSaid'. A law counts once. -/
mutual
def uptoBulk {H : Type} : DataW H → Nat
  | .lit (.string bytes) => bytes.length + 1
  | .lit _ => 1
  | .nil => 1
  | .ptr d => uptoBulk d + 1
  | .slice elems spare => uptoBulkAll elems + uptoBulkAll spare + 1
  | .agg parts => uptoBulkAll parts + 1
  | .iface _ d => uptoBulk d + 1
  | .map entries => uptoBulkEntries entries + 1
  | .held _ => 1
def uptoBulkAll {H : Type} : List (DataW H) → Nat
  | [] => 0
  | d :: r => uptoBulk d + uptoBulkAll r
def uptoBulkEntries {H : Type} : List (Lit × DataW H) → Nat
  | [] => 0
  | x :: r => uptoBulkEntry x + uptoBulkEntries r
def uptoBulkEntry {H : Type} : Lit × DataW H → Nat
  | (.string bytes, d) => bytes.length + uptoBulk d + 1
  | (_, d) => uptoBulk d + 1
 end
def uptoSmall : (H : Type) → List (DataW H) → Bool := fun _ ds => decide (uptoBulkAll ds ≤ 1048576)
def OpenSpec.upto (s : _root_.Go.ChangeSpec) : _root_.Go.OpenSpec := { _root_.Go.OpenSpec.ofChange s with cond := some uptoSmall }

/-- 'ipsecgatelaw34.AuthBegins', WHERE WHAT IT READS IS OF BULK AT MOST 1048576: true; the input reads as it did. -/
def authBeginsUptoRow : OpenClaim := { program := "ytgiciiknagelhaa", sum := "b22a7a9502ed3527b0c163e4d86eb9b73bd006e60456b06d4bcdc535009dc571", func := "ipsecgate/ipsecgatelaw34.AuthBegins", spec := "authBegins", unfollowed := true, recurses := true, loops := true, apart := false, narrowed := true }
def AuthBeginsUptoSaid : Prop := authBeginsUptoRow.holds Try.pinned (OpenSpec.upto authBeginsSpec)

/-- 'ipsecgatelaw41.DataplaneNumbers', WHERE WHAT IT READS IS OF BULK AT MOST 1048576: true; the input reads as it did. -/
def dataplaneNumbersUptoRow : OpenClaim := { program := "ytgiciiknagelhaa", sum := "b22a7a9502ed3527b0c163e4d86eb9b73bd006e60456b06d4bcdc535009dc571", func := "ipsecgate/ipsecgatelaw41.DataplaneNumbers", spec := "dataplaneNumbers", unfollowed := true, recurses := true, apart := false, narrowed := true }
def DataplaneNumbersUptoSaid : Prop := dataplaneNumbersUptoRow.holds Try.pinned (OpenSpec.upto dataplaneNumbersSpec)

/-- 'ipsecgatelaw27.DeduceGrows', WHERE WHAT IT READS IS OF BULK AT MOST 1048576: true; the input reads as it did. -/
def deduceGrowsUptoRow : OpenClaim := { program := "ytgiciiknagelhaa", sum := "b22a7a9502ed3527b0c163e4d86eb9b73bd006e60456b06d4bcdc535009dc571", func := "ipsecgate/ipsecgatelaw27.DeduceGrows", spec := "deduceGrows", inPlace := ["slices.overlaps[ipsecgate/api.Term]"], unfollowed := true, recurses := true, apart := false, narrowed := true }
def DeduceGrowsUptoSaid : Prop := deduceGrowsUptoRow.holds Try.pinned (OpenSpec.upto deduceGrowsSpec)

/-- 'ipsecgatelaw27.DeduceLearns', WHERE WHAT IT READS IS OF BULK AT MOST 1048576: true; the input reads as it did. -/
def deduceLearnsUptoRow : OpenClaim := { program := "ytgiciiknagelhaa", sum := "b22a7a9502ed3527b0c163e4d86eb9b73bd006e60456b06d4bcdc535009dc571", func := "ipsecgate/ipsecgatelaw27.DeduceLearns", spec := "deduceLearns", inPlace := ["slices.overlaps[ipsecgate/api.Term]"], unfollowed := true, recurses := true, apart := false, narrowed := true }
def DeduceLearnsUptoSaid : Prop := deduceLearnsUptoRow.holds Try.pinned (OpenSpec.upto deduceLearnsSpec)

/-- 'ipsecgatelaw27.DeduceOpens', WHERE WHAT IT READS IS OF BULK AT MOST 1048576: true; the input reads as it did. -/
def deduceOpensUptoRow : OpenClaim := { program := "ytgiciiknagelhaa", sum := "b22a7a9502ed3527b0c163e4d86eb9b73bd006e60456b06d4bcdc535009dc571", func := "ipsecgate/ipsecgatelaw27.DeduceOpens", spec := "deduceOpens", inPlace := ["slices.overlaps[ipsecgate/api.Term]"], unfollowed := true, recurses := true, apart := false, narrowed := true }
def DeduceOpensUptoSaid : Prop := deduceOpensUptoRow.holds Try.pinned (OpenSpec.upto deduceOpensSpec)

/-- 'ipsecgatelaw27.DeduceMakes', WHERE WHAT IT READS IS OF BULK AT MOST 1048576: true; the input reads as it did. -/
def deduceMakesUptoRow : OpenClaim := { program := "ytgiciiknagelhaa", sum := "b22a7a9502ed3527b0c163e4d86eb9b73bd006e60456b06d4bcdc535009dc571", func := "ipsecgate/ipsecgatelaw27.DeduceMakes", spec := "deduceMakes", inPlace := ["slices.overlaps[ipsecgate/api.Term]"], unfollowed := true, recurses := true, apart := false, narrowed := true }
def DeduceMakesUptoSaid : Prop := deduceMakesUptoRow.holds Try.pinned (OpenSpec.upto deduceMakesSpec)

/-- 'ipsecgatelaw27.DeduceKeeps', WHERE WHAT IT READS IS OF BULK AT MOST 1048576: true; the input reads as it did. -/
def deduceKeepsUptoRow : OpenClaim := { program := "ytgiciiknagelhaa", sum := "b22a7a9502ed3527b0c163e4d86eb9b73bd006e60456b06d4bcdc535009dc571", func := "ipsecgate/ipsecgatelaw27.DeduceKeeps", spec := "deduceKeeps", inPlace := ["slices.overlaps[ipsecgate/api.Term]"], unfollowed := true, recurses := true, apart := false, narrowed := true }
def DeduceKeepsUptoSaid : Prop := deduceKeepsUptoRow.holds Try.pinned (OpenSpec.upto deduceKeepsSpec)

end Rows
end Go.Proofs.Ytgiciiknagelhaa
