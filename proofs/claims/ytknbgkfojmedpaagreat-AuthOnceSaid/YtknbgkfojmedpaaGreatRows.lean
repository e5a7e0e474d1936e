/-
  No cell of these rows narrows 'for every input' (looked for: loops, veiled, ifaces, maps, wideKeys, modest, calm, conditions, laid).
  DERIVED. THE GIVEN ROWS OF THIS SEAT. 10 by the template 'for every input the law returns true; each argument reads behind the call as it read before'; 0 by the template 'total and deterministic' (their statements: YtknbgkfojmedpaaGreatTotals.lean).
  GIVEN WITH THE SEED: the statements are not yours to turn. If you find one false, say at which input.
  Laid BY PROGRAM, IN A SANDBOX (cutbox-rows.mjs): the forced cells as the released guide's own fill.sh prints them over the translation 51115b35724a42e2… (all of the seat's roots in one cut). By AI agents, Wed Nov 11 2026. No macro, syntax, notation, axiom, sorry.
-/
import Derived.Test.YtknbgkfojmedpaaGreatChecked
import GoSem.Claim
import GoSem.ClaimJoined
import GoSem.ClaimMapViews
import Derived.JoinedTies
import Derived.KernelRfl
namespace Go.Proofs.YtknbgkfojmedpaaGreat
/- THE CELL 'sum', in the pinned program and in every row, IS THE sha256 OF THE DUMP (.gsa) THAT YtknbgkfojmedpaaGreatProg.lean LOADS. Nothing in Lean hashes anything: it is a label: what it is worth is what the hold of that sum in a sandbox is worth. -/
noncomputable def Tryz.pinned : Pinned := { name := "ytknbgkfojmedpaagreat", sum := "51115b35724a42e2d9eaaad742bf2bb1e98ff21fa45f6bbf7b3ad8775ea679fd", checked := Tryz.checked }
namespace Rows
def none {H : Type} : Left H := { results := [], args := [] }

/-- 'ipsecgatelaw40.ResumeAnswers': WHATEVER THE INPUT: true; the input reads as it did. -/
def resumeAnswersSpec : ChangeSpec := { name := "resumeAnswers", fn := fun _ => fun
  | [d1, d2] => { results := [.lit (.bool true)], args := [d1, d2] }
  | _ => none }
def resumeAnswersRow : OpenClaim := { program := "ytknbgkfojmedpaagreat", sum := "51115b35724a42e2d9eaaad742bf2bb1e98ff21fa45f6bbf7b3ad8775ea679fd", func := "ipsecgate/ipsecgatelaw40.ResumeAnswers", spec := "resumeAnswers", unfollowed := true, recurses := true, apart := false }
def ResumeAnswersSaid : Prop := resumeAnswersRow.holds Tryz.pinned (OpenSpec.ofChange resumeAnswersSpec)

/-- ITS FALSE NEIGHBOUR: 'it returns false'. Refute it at one input. -/
def resumeAnswersWrong : ChangeSpec := { name := "resumeAnswers", fn := fun _ => fun
  | [d1, d2] => { results := [.lit (.bool false)], args := [d1, d2] }
  | _ => none }
def ResumeAnswersWrongFalsely : Prop := resumeAnswersRow.holds Tryz.pinned (OpenSpec.ofChange resumeAnswersWrong)

/-- 'ipsecgatelaw36.RekeyRefuses': WHATEVER THE INPUT: true; the input reads as it did. -/
def rekeyRefusesSpec : ChangeSpec := { name := "rekeyRefuses", fn := fun _ => fun
  | [d1, d2] => { results := [.lit (.bool true)], args := [d1, d2] }
  | _ => none }
def rekeyRefusesRow : OpenClaim := { program := "ytknbgkfojmedpaagreat", sum := "51115b35724a42e2d9eaaad742bf2bb1e98ff21fa45f6bbf7b3ad8775ea679fd", func := "ipsecgate/ipsecgatelaw36.RekeyRefuses", spec := "rekeyRefuses", unfollowed := true, recurses := true, apart := false }
def RekeyRefusesSaid : Prop := rekeyRefusesRow.holds Tryz.pinned (OpenSpec.ofChange rekeyRefusesSpec)

/-- ITS FALSE NEIGHBOUR: 'it returns false'. Refute it at one input. -/
def rekeyRefusesWrong : ChangeSpec := { name := "rekeyRefuses", fn := fun _ => fun
  | [d1, d2] => { results := [.lit (.bool false)], args := [d1, d2] }
  | _ => none }
def RekeyRefusesWrongFalsely : Prop := rekeyRefusesRow.holds Tryz.pinned (OpenSpec.ofChange rekeyRefusesWrong)

/-- 'ipsecgatelaw34.AuthTickets': WHATEVER THE INPUT: true; the input reads as it did. -/
def authTicketsSpec : ChangeSpec := { name := "authTickets", fn := fun _ => fun
  | [d] => { results := [.lit (.bool true)], args := [d] }
  | _ => none }
def authTicketsRow : OpenClaim := { program := "ytknbgkfojmedpaagreat", sum := "51115b35724a42e2d9eaaad742bf2bb1e98ff21fa45f6bbf7b3ad8775ea679fd", func := "ipsecgate/ipsecgatelaw34.AuthTickets", spec := "authTickets", unfollowed := true, recurses := true, apart := false }
def AuthTicketsSaid : Prop := authTicketsRow.holds Tryz.pinned (OpenSpec.ofChange authTicketsSpec)

/-- ITS FALSE NEIGHBOUR: 'it returns false'. Refute it at one input. -/
def authTicketsWrong : ChangeSpec := { name := "authTickets", fn := fun _ => fun
  | [d] => { results := [.lit (.bool false)], args := [d] }
  | _ => none }
def AuthTicketsWrongFalsely : Prop := authTicketsRow.holds Tryz.pinned (OpenSpec.ofChange authTicketsWrong)

/-- 'ipsecgatelaw34.AuthOnce': WHATEVER THE INPUT: true; the input reads as it did. -/
def authOnceSpec : ChangeSpec := { name := "authOnce", fn := fun _ => fun
  | [d] => { results := [.lit (.bool true)], args := [d] }
  | _ => none }
def authOnceRow : OpenClaim := { program := "ytknbgkfojmedpaagreat", sum := "51115b35724a42e2d9eaaad742bf2bb1e98ff21fa45f6bbf7b3ad8775ea679fd", func := "ipsecgate/ipsecgatelaw34.AuthOnce", spec := "authOnce", unfollowed := true, recurses := true, apart := false }
def AuthOnceSaid : Prop := authOnceRow.holds Tryz.pinned (OpenSpec.ofChange authOnceSpec)

/-- ITS FALSE NEIGHBOUR: 'it returns false'. Refute it at one input. -/
def authOnceWrong : ChangeSpec := { name := "authOnce", fn := fun _ => fun
  | [d] => { results := [.lit (.bool false)], args := [d] }
  | _ => none }
def AuthOnceWrongFalsely : Prop := authOnceRow.holds Tryz.pinned (OpenSpec.ofChange authOnceWrong)

/-- 'ipsecgatelaw34.AuthAnswers': WHATEVER THE INPUT: true; the input reads as it did. -/
def authAnswersSpec : ChangeSpec := { name := "authAnswers", fn := fun _ => fun
  | [d] => { results := [.lit (.bool true)], args := [d] }
  | _ => none }
def authAnswersRow : OpenClaim := { program := "ytknbgkfojmedpaagreat", sum := "51115b35724a42e2d9eaaad742bf2bb1e98ff21fa45f6bbf7b3ad8775ea679fd", func := "ipsecgate/ipsecgatelaw34.AuthAnswers", spec := "authAnswers", unfollowed := true, recurses := true, apart := false }
def AuthAnswersSaid : Prop := authAnswersRow.holds Tryz.pinned (OpenSpec.ofChange authAnswersSpec)

/-- ITS FALSE NEIGHBOUR: 'it returns false'. Refute it at one input. -/
def authAnswersWrong : ChangeSpec := { name := "authAnswers", fn := fun _ => fun
  | [d] => { results := [.lit (.bool false)], args := [d] }
  | _ => none }
def AuthAnswersWrongFalsely : Prop := authAnswersRow.holds Tryz.pinned (OpenSpec.ofChange authAnswersWrong)

/-- 'ipsecgatelaw34.AuthAgrees': WHATEVER THE INPUT: true; the input reads as it did. -/
def authAgreesSpec : ChangeSpec := { name := "authAgrees", fn := fun _ => fun
  | [d] => { results := [.lit (.bool true)], args := [d] }
  | _ => none }
def authAgreesRow : OpenClaim := { program := "ytknbgkfojmedpaagreat", sum := "51115b35724a42e2d9eaaad742bf2bb1e98ff21fa45f6bbf7b3ad8775ea679fd", func := "ipsecgate/ipsecgatelaw34.AuthAgrees", spec := "authAgrees", unfollowed := true, recurses := true, apart := false }
def AuthAgreesSaid : Prop := authAgreesRow.holds Tryz.pinned (OpenSpec.ofChange authAgreesSpec)

/-- ITS FALSE NEIGHBOUR: 'it returns false'. Refute it at one input. -/
def authAgreesWrong : ChangeSpec := { name := "authAgrees", fn := fun _ => fun
  | [d] => { results := [.lit (.bool false)], args := [d] }
  | _ => none }
def AuthAgreesWrongFalsely : Prop := authAgreesRow.holds Tryz.pinned (OpenSpec.ofChange authAgreesWrong)

/-- 'ipsecgatelaw34.AuthRefuses': WHATEVER THE INPUT: true; the input reads as it did. -/
def authRefusesSpec : ChangeSpec := { name := "authRefuses", fn := fun _ => fun
  | [d1, d2] => { results := [.lit (.bool true)], args := [d1, d2] }
  | _ => none }
def authRefusesRow : OpenClaim := { program := "ytknbgkfojmedpaagreat", sum := "51115b35724a42e2d9eaaad742bf2bb1e98ff21fa45f6bbf7b3ad8775ea679fd", func := "ipsecgate/ipsecgatelaw34.AuthRefuses", spec := "authRefuses", unfollowed := true, recurses := true, apart := false }
def AuthRefusesSaid : Prop := authRefusesRow.holds Tryz.pinned (OpenSpec.ofChange authRefusesSpec)

/-- ITS FALSE NEIGHBOUR: 'it returns false'. Refute it at one input. -/
def authRefusesWrong : ChangeSpec := { name := "authRefuses", fn := fun _ => fun
  | [d1, d2] => { results := [.lit (.bool false)], args := [d1, d2] }
  | _ => none }
def AuthRefusesWrongFalsely : Prop := authRefusesRow.holds Tryz.pinned (OpenSpec.ofChange authRefusesWrong)

/-- 'ipsecgatelaw36.RekeyReplaces': WHATEVER THE INPUT: true; the input reads as it did. -/
def rekeyReplacesSpec : ChangeSpec := { name := "rekeyReplaces", fn := fun _ => fun
  | [d] => { results := [.lit (.bool true)], args := [d] }
  | _ => none }
def rekeyReplacesRow : OpenClaim := { program := "ytknbgkfojmedpaagreat", sum := "51115b35724a42e2d9eaaad742bf2bb1e98ff21fa45f6bbf7b3ad8775ea679fd", func := "ipsecgate/ipsecgatelaw36.RekeyReplaces", spec := "rekeyReplaces", unfollowed := true, recurses := true, apart := false }
def RekeyReplacesSaid : Prop := rekeyReplacesRow.holds Tryz.pinned (OpenSpec.ofChange rekeyReplacesSpec)

/-- ITS FALSE NEIGHBOUR: 'it returns false'. Refute it at one input. -/
def rekeyReplacesWrong : ChangeSpec := { name := "rekeyReplaces", fn := fun _ => fun
  | [d] => { results := [.lit (.bool false)], args := [d] }
  | _ => none }
def RekeyReplacesWrongFalsely : Prop := rekeyReplacesRow.holds Tryz.pinned (OpenSpec.ofChange rekeyReplacesWrong)

/-- 'ipsecgatelaw36.RekeyCollides': WHATEVER THE INPUT: true; the input reads as it did. -/
def rekeyCollidesSpec : ChangeSpec := { name := "rekeyCollides", fn := fun _ => fun
  | [d1, d2] => { results := [.lit (.bool true)], args := [d1, d2] }
  | _ => none }
def rekeyCollidesRow : OpenClaim := { program := "ytknbgkfojmedpaagreat", sum := "51115b35724a42e2d9eaaad742bf2bb1e98ff21fa45f6bbf7b3ad8775ea679fd", func := "ipsecgate/ipsecgatelaw36.RekeyCollides", spec := "rekeyCollides", unfollowed := true, recurses := true, apart := false }
def RekeyCollidesSaid : Prop := rekeyCollidesRow.holds Tryz.pinned (OpenSpec.ofChange rekeyCollidesSpec)

/-- ITS FALSE NEIGHBOUR: 'it returns false'. Refute it at one input. -/
def rekeyCollidesWrong : ChangeSpec := { name := "rekeyCollides", fn := fun _ => fun
  | [d1, d2] => { results := [.lit (.bool false)], args := [d1, d2] }
  | _ => none }
def RekeyCollidesWrongFalsely : Prop := rekeyCollidesRow.holds Tryz.pinned (OpenSpec.ofChange rekeyCollidesWrong)

/-- 'ipsecgatelaw36.RekeyLate': WHATEVER THE INPUT: true; the input reads as it did. -/
def rekeyLateSpec : ChangeSpec := { name := "rekeyLate", fn := fun _ => fun
  | [d1, d2] => { results := [.lit (.bool true)], args := [d1, d2] }
  | _ => none }
def rekeyLateRow : OpenClaim := { program := "ytknbgkfojmedpaagreat", sum := "51115b35724a42e2d9eaaad742bf2bb1e98ff21fa45f6bbf7b3ad8775ea679fd", func := "ipsecgate/ipsecgatelaw36.RekeyLate", spec := "rekeyLate", unfollowed := true, recurses := true, apart := false }
def RekeyLateSaid : Prop := rekeyLateRow.holds Tryz.pinned (OpenSpec.ofChange rekeyLateSpec)

/-- ITS FALSE NEIGHBOUR: 'it returns false'. Refute it at one input. -/
def rekeyLateWrong : ChangeSpec := { name := "rekeyLate", fn := fun _ => fun
  | [d1, d2] => { results := [.lit (.bool false)], args := [d1, d2] }
  | _ => none }
def RekeyLateWrongFalsely : Prop := rekeyLateRow.holds Tryz.pinned (OpenSpec.ofChange rekeyLateWrong)

/- THE SECOND FORM. 'bulk': how many values and letters a reading holds, each counted each time it is reached (what is shared counts as often as it is met; a slice's spare places count too). A statement '..UptoSaid' is the law's where the arguments, and the package variables that the reading takes, are together of bulk at most 1048576: NARROWER than '..Said'. Prove '..Said' where nothing that the law and all that it calls make is longer than what came in: it says more and counts as full. Else prove '..UptoSaid'. A law counts once. -/
mutual
def uptoBulk {H : Type} : DataW H → Nat
  | .lit (.string bytes) => bytes.length + 1
  | .lit _ => 1
  | .nil => 1
  | .ptr d => uptoBulk d + 1
  | .slice elems spare => uptoBulkAll elems + uptoBulkAll spare + 1
  | .agg parts => uptoBulkAll parts + 1
  | .iface _ d => uptoBulk d + 1
  | .map entries => uptoBulkEntries entries + 1
  | .held _ => 1
def uptoBulkAll {H : Type} : List (DataW H) → Nat
  | [] => 0
  | d :: r => uptoBulk d + uptoBulkAll r
def uptoBulkEntries {H : Type} : List (Lit × DataW H) → Nat
  | [] => 0
  | x :: r => uptoBulkEntry x + uptoBulkEntries r
def uptoBulkEntry {H : Type} : Lit × DataW H → Nat
  | (.string bytes, d) => bytes.length + uptoBulk d + 1
  | (_, d) => uptoBulk d + 1
 end
def uptoSmall : (H : Type) → List (DataW H) → Bool := fun _ ds => decide (uptoBulkAll ds ≤ 1048576)
def OpenSpec.upto (s : _root_.Go.ChangeSpec) : _root_.Go.OpenSpec := { _root_.Go.OpenSpec.ofChange s with cond := some uptoSmall }

/-- 'ipsecgatelaw40.ResumeAnswers', WHERE WHAT IT READS IS OF BULK AT MOST 1048576: true; the input reads as it did. -/
def resumeAnswersUptoRow : OpenClaim := { program := "ytknbgkfojmedpaagreat", sum := "51115b35724a42e2d9eaaad742bf2bb1e98ff21fa45f6bbf7b3ad8775ea679fd", func := "ipsecgate/ipsecgatelaw40.ResumeAnswers", spec := "resumeAnswers", unfollowed := true, recurses := true, apart := false, narrowed := true }
def ResumeAnswersUptoSaid : Prop := resumeAnswersUptoRow.holds Tryz.pinned (OpenSpec.upto resumeAnswersSpec)

/-- 'ipsecgatelaw36.RekeyRefuses', WHERE WHAT IT READS IS OF BULK AT MOST 1048576: true; the input reads as it did. -/
def rekeyRefusesUptoRow : OpenClaim := { program := "ytknbgkfojmedpaagreat", sum := "51115b35724a42e2d9eaaad742bf2bb1e98ff21fa45f6bbf7b3ad8775ea679fd", func := "ipsecgate/ipsecgatelaw36.RekeyRefuses", spec := "rekeyRefuses", unfollowed := true, recurses := true, apart := false, narrowed := true }
def RekeyRefusesUptoSaid : Prop := rekeyRefusesUptoRow.holds Tryz.pinned (OpenSpec.upto rekeyRefusesSpec)

/-- 'ipsecgatelaw34.AuthTickets', WHERE WHAT IT READS IS OF BULK AT MOST 1048576: true; the input reads as it did. -/
def authTicketsUptoRow : OpenClaim := { program := "ytknbgkfojmedpaagreat", sum := "51115b35724a42e2d9eaaad742bf2bb1e98ff21fa45f6bbf7b3ad8775ea679fd", func := "ipsecgate/ipsecgatelaw34.AuthTickets", spec := "authTickets", unfollowed := true, recurses := true, apart := false, narrowed := true }
def AuthTicketsUptoSaid : Prop := authTicketsUptoRow.holds Tryz.pinned (OpenSpec.upto authTicketsSpec)

/-- 'ipsecgatelaw34.AuthOnce', WHERE WHAT IT READS IS OF BULK AT MOST 1048576: true; the input reads as it did. -/
def authOnceUptoRow : OpenClaim := { program := "ytknbgkfojmedpaagreat", sum := "51115b35724a42e2d9eaaad742bf2bb1e98ff21fa45f6bbf7b3ad8775ea679fd", func := "ipsecgate/ipsecgatelaw34.AuthOnce", spec := "authOnce", unfollowed := true, recurses := true, apart := false, narrowed := true }
def AuthOnceUptoSaid : Prop := authOnceUptoRow.holds Tryz.pinned (OpenSpec.upto authOnceSpec)

/-- 'ipsecgatelaw34.AuthAnswers', WHERE WHAT IT READS IS OF BULK AT MOST 1048576: true; the input reads as it did. -/
def authAnswersUptoRow : OpenClaim := { program := "ytknbgkfojmedpaagreat", sum := "51115b35724a42e2d9eaaad742bf2bb1e98ff21fa45f6bbf7b3ad8775ea679fd", func := "ipsecgate/ipsecgatelaw34.AuthAnswers", spec := "authAnswers", unfollowed := true, recurses := true, apart := false, narrowed := true }
def AuthAnswersUptoSaid : Prop := authAnswersUptoRow.holds Tryz.pinned (OpenSpec.upto authAnswersSpec)

/-- 'ipsecgatelaw34.AuthAgrees', WHERE WHAT IT READS IS OF BULK AT MOST 1048576: true; the input reads as it did. -/
def authAgreesUptoRow : OpenClaim := { program := "ytknbgkfojmedpaagreat", sum := "51115b35724a42e2d9eaaad742bf2bb1e98ff21fa45f6bbf7b3ad8775ea679fd", func := "ipsecgate/ipsecgatelaw34.AuthAgrees", spec := "authAgrees", unfollowed := true, recurses := true, apart := false, narrowed := true }
def AuthAgreesUptoSaid : Prop := authAgreesUptoRow.holds Tryz.pinned (OpenSpec.upto authAgreesSpec)

/-- 'ipsecgatelaw34.AuthRefuses', WHERE WHAT IT READS IS OF BULK AT MOST 1048576: true; the input reads as it did. -/
def authRefusesUptoRow : OpenClaim := { program := "ytknbgkfojmedpaagreat", sum := "51115b35724a42e2d9eaaad742bf2bb1e98ff21fa45f6bbf7b3ad8775ea679fd", func := "ipsecgate/ipsecgatelaw34.AuthRefuses", spec := "authRefuses", unfollowed := true, recurses := true, apart := false, narrowed := true }
def AuthRefusesUptoSaid : Prop := authRefusesUptoRow.holds Tryz.pinned (OpenSpec.upto authRefusesSpec)

/-- 'ipsecgatelaw36.RekeyReplaces', WHERE WHAT IT READS IS OF BULK AT MOST 1048576: true; the input reads as it did. -/
def rekeyReplacesUptoRow : OpenClaim := { program := "ytknbgkfojmedpaagreat", sum := "51115b35724a42e2d9eaaad742bf2bb1e98ff21fa45f6bbf7b3ad8775ea679fd", func := "ipsecgate/ipsecgatelaw36.RekeyReplaces", spec := "rekeyReplaces", unfollowed := true, recurses := true, apart := false, narrowed := true }
def RekeyReplacesUptoSaid : Prop := rekeyReplacesUptoRow.holds Tryz.pinned (OpenSpec.upto rekeyReplacesSpec)

/-- 'ipsecgatelaw36.RekeyCollides', WHERE WHAT IT READS IS OF BULK AT MOST 1048576: true; the input reads as it did. -/
def rekeyCollidesUptoRow : OpenClaim := { program := "ytknbgkfojmedpaagreat", sum := "51115b35724a42e2d9eaaad742bf2bb1e98ff21fa45f6bbf7b3ad8775ea679fd", func := "ipsecgate/ipsecgatelaw36.RekeyCollides", spec := "rekeyCollides", unfollowed := true, recurses := true, apart := false, narrowed := true }
def RekeyCollidesUptoSaid : Prop := rekeyCollidesUptoRow.holds Tryz.pinned (OpenSpec.upto rekeyCollidesSpec)

/-- 'ipsecgatelaw36.RekeyLate', WHERE WHAT IT READS IS OF BULK AT MOST 1048576: true; the input reads as it did. -/
def rekeyLateUptoRow : OpenClaim := { program := "ytknbgkfojmedpaagreat", sum := "51115b35724a42e2d9eaaad742bf2bb1e98ff21fa45f6bbf7b3ad8775ea679fd", func := "ipsecgate/ipsecgatelaw36.RekeyLate", spec := "rekeyLate", unfollowed := true, recurses := true, apart := false, narrowed := true }
def RekeyLateUptoSaid : Prop := rekeyLateUptoRow.holds Tryz.pinned (OpenSpec.upto rekeyLateSpec)

end Rows
end Go.Proofs.YtknbgkfojmedpaaGreat
