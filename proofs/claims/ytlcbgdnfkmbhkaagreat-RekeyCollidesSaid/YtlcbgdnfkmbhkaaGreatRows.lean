/-
  No cell of these rows narrows 'for every input' (looked for: loops, veiled, ifaces, maps, wideKeys, modest, calm, conditions, laid).
  DERIVED. THE GIVEN ROWS OF THIS SEAT. 5 by the template 'for every input the law returns true; each argument reads behind the call as it read before'; 0 by the template 'total and deterministic' (their statements: YtlcbgdnfkmbhkaaGreatTotals.lean).
  GIVEN WITH THE SEED: the statements are not yours to turn. If you find one false, say at which input.
  Laid BY PROGRAM, IN A SANDBOX (cutbox-rows.mjs): the forced cells as the released guide's own fill.sh prints them over the translation 19b0fccbc87eddbf… (all of the seat's roots in one cut). By AI agents, Wed Nov 11 2026. No macro, syntax, notation, axiom, sorry.
-/
import Derived.Test.YtlcbgdnfkmbhkaaGreatChecked
import GoSem.Claim
import GoSem.ClaimJoined
import GoSem.ClaimMapViews
import Derived.JoinedTies
import Derived.KernelRfl
namespace Go.Proofs.YtlcbgdnfkmbhkaaGreat
/- THE CELL 'sum', in the pinned program and in every row, IS THE sha256 OF THE DUMP (.gsa) THAT YtlcbgdnfkmbhkaaGreatProg.lean LOADS. Nothing in Lean hashes anything: it is a label: what it is worth is what the hold of that sum in a sandbox is worth. -/
noncomputable def Tryz.pinned : Pinned := { name := "ytlcbgdnfkmbhkaagreat", sum := "19b0fccbc87eddbf1becaf941376c1ff0dd82dba1edbf09f34573c01f7adf01c", checked := Tryz.checked }
namespace Rows
def none {H : Type} : Left H := { results := [], args := [] }

/-- 'ipsecgatelaw36.RekeyRefuses': WHATEVER THE INPUT: true; the input reads as it did. -/
def rekeyRefusesSpec : ChangeSpec := { name := "rekeyRefuses", fn := fun _ => fun
  | [d1, d2] => { results := [.lit (.bool true)], args := [d1, d2] }
  | _ => none }
def rekeyRefusesRow : OpenClaim := { program := "ytlcbgdnfkmbhkaagreat", sum := "19b0fccbc87eddbf1becaf941376c1ff0dd82dba1edbf09f34573c01f7adf01c", func := "ipsecgate/ipsecgatelaw36.RekeyRefuses", spec := "rekeyRefuses", unfollowed := true, recurses := true, apart := false }
def RekeyRefusesSaid : Prop := rekeyRefusesRow.holds Tryz.pinned (OpenSpec.ofChange rekeyRefusesSpec)

/-- ITS FALSE NEIGHBOUR: 'it returns false'. Refute it at one input. -/
def rekeyRefusesWrong : ChangeSpec := { name := "rekeyRefuses", fn := fun _ => fun
  | [d1, d2] => { results := [.lit (.bool false)], args := [d1, d2] }
  | _ => none }
def RekeyRefusesWrongFalsely : Prop := rekeyRefusesRow.holds Tryz.pinned (OpenSpec.ofChange rekeyRefusesWrong)

/-- 'ipsecgatelaw34.AuthAnswers': WHATEVER THE INPUT: true; the input reads as it did. -/
def authAnswersSpec : ChangeSpec := { name := "authAnswers", fn := fun _ => fun
  | [d] => { results := [.lit (.bool true)], args := [d] }
  | _ => none }
def authAnswersRow : OpenClaim := { program := "ytlcbgdnfkmbhkaagreat", sum := "19b0fccbc87eddbf1becaf941376c1ff0dd82dba1edbf09f34573c01f7adf01c", func := "ipsecgate/ipsecgatelaw34.AuthAnswers", spec := "authAnswers", unfollowed := true, recurses := true, apart := false }
def AuthAnswersSaid : Prop := authAnswersRow.holds Tryz.pinned (OpenSpec.ofChange authAnswersSpec)

/-- ITS FALSE NEIGHBOUR: 'it returns false'. Refute it at one input. -/
def authAnswersWrong : ChangeSpec := { name := "authAnswers", fn := fun _ => fun
  | [d] => { results := [.lit (.bool false)], args := [d] }
  | _ => none }
def AuthAnswersWrongFalsely : Prop := authAnswersRow.holds Tryz.pinned (OpenSpec.ofChange authAnswersWrong)

/-- 'ipsecgatelaw36.RekeyReplaces': WHATEVER THE INPUT: true; the input reads as it did. -/
def rekeyReplacesSpec : ChangeSpec := { name := "rekeyReplaces", fn := fun _ => fun
  | [d] => { results := [.lit (.bool true)], args := [d] }
  | _ => none }
def rekeyReplacesRow : OpenClaim := { program := "ytlcbgdnfkmbhkaagreat", sum := "19b0fccbc87eddbf1becaf941376c1ff0dd82dba1edbf09f34573c01f7adf01c", func := "ipsecgate/ipsecgatelaw36.RekeyReplaces", spec := "rekeyReplaces", unfollowed := true, recurses := true, apart := false }
def RekeyReplacesSaid : Prop := rekeyReplacesRow.holds Tryz.pinned (OpenSpec.ofChange rekeyReplacesSpec)

/-- ITS FALSE NEIGHBOUR: 'it returns false'. Refute it at one input. -/
def rekeyReplacesWrong : ChangeSpec := { name := "rekeyReplaces", fn := fun _ => fun
  | [d] => { results := [.lit (.bool false)], args := [d] }
  | _ => none }
def RekeyReplacesWrongFalsely : Prop := rekeyReplacesRow.holds Tryz.pinned (OpenSpec.ofChange rekeyReplacesWrong)

/-- 'ipsecgatelaw36.RekeyCollides': WHATEVER THE INPUT: true; the input reads as it did. -/
def rekeyCollidesSpec : ChangeSpec := { name := "rekeyCollides", fn := fun _ => fun
  | [d1, d2] => { results := [.lit (.bool true)], args := [d1, d2] }
  | _ => none }
def rekeyCollidesRow : OpenClaim := { program := "ytlcbgdnfkmbhkaagreat", sum := "19b0fccbc87eddbf1becaf941376c1ff0dd82dba1edbf09f34573c01f7adf01c", func := "ipsecgate/ipsecgatelaw36.RekeyCollides", spec := "rekeyCollides", unfollowed := true, recurses := true, apart := false }
def RekeyCollidesSaid : Prop := rekeyCollidesRow.holds Tryz.pinned (OpenSpec.ofChange rekeyCollidesSpec)

/-- ITS FALSE NEIGHBOUR: 'it returns false'. Refute it at one input. -/
def rekeyCollidesWrong : ChangeSpec := { name := "rekeyCollides", fn := fun _ => fun
  | [d1, d2] => { results := [.lit (.bool false)], args := [d1, d2] }
  | _ => none }
def RekeyCollidesWrongFalsely : Prop := rekeyCollidesRow.holds Tryz.pinned (OpenSpec.ofChange rekeyCollidesWrong)

/-- 'ipsecgatelaw36.RekeyLate': WHATEVER THE INPUT: true; the input reads as it did. -/
def rekeyLateSpec : ChangeSpec := { name := "rekeyLate", fn := fun _ => fun
  | [d1, d2] => { results := [.lit (.bool true)], args := [d1, d2] }
  | _ => none }
def rekeyLateRow : OpenClaim := { program := "ytlcbgdnfkmbhkaagreat", sum := "19b0fccbc87eddbf1becaf941376c1ff0dd82dba1edbf09f34573c01f7adf01c", func := "ipsecgate/ipsecgatelaw36.RekeyLate", spec := "rekeyLate", unfollowed := true, recurses := true, apart := false }
def RekeyLateSaid : Prop := rekeyLateRow.holds Tryz.pinned (OpenSpec.ofChange rekeyLateSpec)

/-- ITS FALSE NEIGHBOUR: 'it returns false'. Refute it at one input. -/
def rekeyLateWrong : ChangeSpec := { name := "rekeyLate", fn := fun _ => fun
  | [d1, d2] => { results := [.lit (.bool false)], args := [d1, d2] }
  | _ => none }
def RekeyLateWrongFalsely : Prop := rekeyLateRow.holds Tryz.pinned (OpenSpec.ofChange rekeyLateWrong)

/- THE SECOND FORM. 'bulk': how many values and letters a reading holds, each counted each time it is reached (what is shared counts as often as it is met; a slice's spare places count too). A statement '..UptoSaid' is the law's where the arguments, and the package variables that the reading takes, are together of bulk at most 1048576: NARROWER than '..Said'. Prove '..Said' where nothing that the law and all that it calls make is longer than what came in: it says more and counts as full. Else prove '..UptoSaid'. A law counts once. -/
mutual
def uptoBulk {H : Type} : DataW H → Nat
  | .lit (.string bytes) => bytes.length + 1
  | .lit _ => 1
  | .nil => 1
  | .ptr d => uptoBulk d + 1
  | .slice elems spare => uptoBulkAll elems + uptoBulkAll spare + 1
  | .agg parts => uptoBulkAll parts + 1
  | .iface _ d => uptoBulk d + 1
  | .map entries => uptoBulkEntries entries + 1
  | .held _ => 1
def uptoBulkAll {H : Type} : List (DataW H) → Nat
  | [] => 0
  | d :: r => uptoBulk d + uptoBulkAll r
def uptoBulkEntries {H : Type} : List (Lit × DataW H) → Nat
  | [] => 0
  | x :: r => uptoBulkEntry x + uptoBulkEntries r
def uptoBulkEntry {H : Type} : Lit × DataW H → Nat
  | (.string bytes, d) => bytes.length + uptoBulk d + 1
  | (_, d) => uptoBulk d + 1
 end
def uptoSmall : (H : Type) → List (DataW H) → Bool := fun _ ds => decide (uptoBulkAll ds ≤ 1048576)
def OpenSpec.upto (s : _root_.Go.ChangeSpec) : _root_.Go.OpenSpec := { _root_.Go.OpenSpec.ofChange s with cond := some uptoSmall }

/-- 'ipsecgatelaw36.RekeyRefuses', WHERE WHAT IT READS IS OF BULK AT MOST 1048576: true; the input reads as it did. -/
def rekeyRefusesUptoRow : OpenClaim := { program := "ytlcbgdnfkmbhkaagreat", sum := "19b0fccbc87eddbf1becaf941376c1ff0dd82dba1edbf09f34573c01f7adf01c", func := "ipsecgate/ipsecgatelaw36.RekeyRefuses", spec := "rekeyRefuses", unfollowed := true, recurses := true, apart := false, narrowed := true }
def RekeyRefusesUptoSaid : Prop := rekeyRefusesUptoRow.holds Tryz.pinned (OpenSpec.upto rekeyRefusesSpec)

/-- 'ipsecgatelaw34.AuthAnswers', WHERE WHAT IT READS IS OF BULK AT MOST 1048576: true; the input reads as it did. -/
def authAnswersUptoRow : OpenClaim := { program := "ytlcbgdnfkmbhkaagreat", sum := "19b0fccbc87eddbf1becaf941376c1ff0dd82dba1edbf09f34573c01f7adf01c", func := "ipsecgate/ipsecgatelaw34.AuthAnswers", spec := "authAnswers", unfollowed := true, recurses := true, apart := false, narrowed := true }
def AuthAnswersUptoSaid : Prop := authAnswersUptoRow.holds Tryz.pinned (OpenSpec.upto authAnswersSpec)

/-- 'ipsecgatelaw36.RekeyReplaces', WHERE WHAT IT READS IS OF BULK AT MOST 1048576: true; the input reads as it did. -/
def rekeyReplacesUptoRow : OpenClaim := { program := "ytlcbgdnfkmbhkaagreat", sum := "19b0fccbc87eddbf1becaf941376c1ff0dd82dba1edbf09f34573c01f7adf01c", func := "ipsecgate/ipsecgatelaw36.RekeyReplaces", spec := "rekeyReplaces", unfollowed := true, recurses := true, apart := false, narrowed := true }
def RekeyReplacesUptoSaid : Prop := rekeyReplacesUptoRow.holds Tryz.pinned (OpenSpec.upto rekeyReplacesSpec)

/-- 'ipsecgatelaw36.RekeyCollides', WHERE WHAT IT READS IS OF BULK AT MOST 1048576: true; the input reads as it did. -/
def rekeyCollidesUptoRow : OpenClaim := { program := "ytlcbgdnfkmbhkaagreat", sum := "19b0fccbc87eddbf1becaf941376c1ff0dd82dba1edbf09f34573c01f7adf01c", func := "ipsecgate/ipsecgatelaw36.RekeyCollides", spec := "rekeyCollides", unfollowed := true, recurses := true, apart := false, narrowed := true }
def RekeyCollidesUptoSaid : Prop := rekeyCollidesUptoRow.holds Tryz.pinned (OpenSpec.upto rekeyCollidesSpec)

/-- 'ipsecgatelaw36.RekeyLate', WHERE WHAT IT READS IS OF BULK AT MOST 1048576: true; the input reads as it did. -/
def rekeyLateUptoRow : OpenClaim := { program := "ytlcbgdnfkmbhkaagreat", sum := "19b0fccbc87eddbf1becaf941376c1ff0dd82dba1edbf09f34573c01f7adf01c", func := "ipsecgate/ipsecgatelaw36.RekeyLate", spec := "rekeyLate", unfollowed := true, recurses := true, apart := false, narrowed := true }
def RekeyLateUptoSaid : Prop := rekeyLateUptoRow.holds Tryz.pinned (OpenSpec.upto rekeyLateSpec)

end Rows
end Go.Proofs.YtlcbgdnfkmbhkaaGreat
