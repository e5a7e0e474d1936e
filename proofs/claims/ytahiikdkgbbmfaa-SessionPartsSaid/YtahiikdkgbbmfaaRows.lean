/-
  NARROWER THAN 'FOR EVERY INPUT', by the rows' own cells (each row's printed sentence says how): SessionReads: loops.
  DERIVED. THE GIVEN ROWS OF THIS SEAT. 10 by the template 'for every input the law returns true; each argument reads behind the call as it read before'; 0 by the template 'total and deterministic' (their statements: YtahiikdkgbbmfaaTotals.lean).
  GIVEN WITH THE SEED: the statements are not yours to turn. If you find one false, say at which input.
  Laid BY PROGRAM, IN A SANDBOX (cutbox-rows.mjs): the forced cells as the released guide's own fill.sh prints them over the translation 7bfbf9f6d4368d31… (all of the seat's roots in one cut). By AI agents, Wed Nov 11 2026. No macro, syntax, notation, axiom, sorry.
-/
import Derived.Test.YtahiikdkgbbmfaaChecked
import GoSem.Claim
import GoSem.ClaimJoined
import GoSem.ClaimMapViews
import Derived.JoinedTies
import Derived.KernelRfl
namespace Go.Proofs.Ytahiikdkgbbmfaa
/- THE CELL 'sum', in the pinned program and in every row, IS THE sha256 OF THE DUMP (.gsa) THAT YtahiikdkgbbmfaaProg.lean LOADS. Nothing in Lean hashes anything: it is a label: what it is worth is what the hold of that sum in a sandbox is worth. -/
noncomputable def Try.pinned : Pinned := { name := "ytahiikdkgbbmfaa", sum := "7bfbf9f6d4368d3122106b718982a9c608b88d2e73703227d7597ee082eae492", checked := Try.checked }
namespace Rows
def none {H : Type} : Left H := { results := [], args := [] }

/-- 'ipsecgatelaw28.SessionNames': WHATEVER THE INPUT: true; the input reads as it did. -/
def sessionNamesSpec : ChangeSpec := { name := "sessionNames", fn := fun _ => fun
  | [d1, d2, d3] => { results := [.lit (.bool true)], args := [d1, d2, d3] }
  | _ => none }
def sessionNamesRow : OpenClaim := { program := "ytahiikdkgbbmfaa", sum := "7bfbf9f6d4368d3122106b718982a9c608b88d2e73703227d7597ee082eae492", func := "ipsecgate/ipsecgatelaw28.SessionNames", spec := "sessionNames", recurses := true, apart := false }
def SessionNamesSaid : Prop := sessionNamesRow.holds Try.pinned (OpenSpec.ofChange sessionNamesSpec)

/-- ITS FALSE NEIGHBOUR: 'it returns false'. Refute it at one input. -/
def sessionNamesWrong : ChangeSpec := { name := "sessionNames", fn := fun _ => fun
  | [d1, d2, d3] => { results := [.lit (.bool false)], args := [d1, d2, d3] }
  | _ => none }
def SessionNamesWrongFalsely : Prop := sessionNamesRow.holds Try.pinned (OpenSpec.ofChange sessionNamesWrong)

/-- 'ipsecgatelaw28.SessionFirst': WHATEVER THE INPUT: true; the input reads as it did. -/
def sessionFirstSpec : ChangeSpec := { name := "sessionFirst", fn := fun _ => fun
  | [d1, d2] => { results := [.lit (.bool true)], args := [d1, d2] }
  | _ => none }
def sessionFirstRow : OpenClaim := { program := "ytahiikdkgbbmfaa", sum := "7bfbf9f6d4368d3122106b718982a9c608b88d2e73703227d7597ee082eae492", func := "ipsecgate/ipsecgatelaw28.SessionFirst", spec := "sessionFirst", recurses := true, apart := false }
def SessionFirstSaid : Prop := sessionFirstRow.holds Try.pinned (OpenSpec.ofChange sessionFirstSpec)

/-- ITS FALSE NEIGHBOUR: 'it returns false'. Refute it at one input. -/
def sessionFirstWrong : ChangeSpec := { name := "sessionFirst", fn := fun _ => fun
  | [d1, d2] => { results := [.lit (.bool false)], args := [d1, d2] }
  | _ => none }
def SessionFirstWrongFalsely : Prop := sessionFirstRow.holds Try.pinned (OpenSpec.ofChange sessionFirstWrong)

/-- 'ipsecgatelaw41.DataplanePackets': WHATEVER THE INPUT: true; the input reads as it did. -/
def dataplanePacketsSpec : ChangeSpec := { name := "dataplanePackets", fn := fun _ => fun
  | [d1, d2, d3, d4, d5] => { results := [.lit (.bool true)], args := [d1, d2, d3, d4, d5] }
  | _ => none }
def dataplanePacketsRow : OpenClaim := { program := "ytahiikdkgbbmfaa", sum := "7bfbf9f6d4368d3122106b718982a9c608b88d2e73703227d7597ee082eae492", func := "ipsecgate/ipsecgatelaw41.DataplanePackets", spec := "dataplanePackets", recurses := true, apart := false }
def DataplanePacketsSaid : Prop := dataplanePacketsRow.holds Try.pinned (OpenSpec.ofChange dataplanePacketsSpec)

/-- ITS FALSE NEIGHBOUR: 'it returns false'. Refute it at one input. -/
def dataplanePacketsWrong : ChangeSpec := { name := "dataplanePackets", fn := fun _ => fun
  | [d1, d2, d3, d4, d5] => { results := [.lit (.bool false)], args := [d1, d2, d3, d4, d5] }
  | _ => none }
def DataplanePacketsWrongFalsely : Prop := dataplanePacketsRow.holds Try.pinned (OpenSpec.ofChange dataplanePacketsWrong)

/-- 'ipsecgatelaw28.SessionParts': WHATEVER THE INPUT: true; the input reads as it did. -/
def sessionPartsSpec : ChangeSpec := { name := "sessionParts", fn := fun _ => fun
  | [d1, d2] => { results := [.lit (.bool true)], args := [d1, d2] }
  | _ => none }
def sessionPartsRow : OpenClaim := { program := "ytahiikdkgbbmfaa", sum := "7bfbf9f6d4368d3122106b718982a9c608b88d2e73703227d7597ee082eae492", func := "ipsecgate/ipsecgatelaw28.SessionParts", spec := "sessionParts", recurses := true, apart := false }
def SessionPartsSaid : Prop := sessionPartsRow.holds Try.pinned (OpenSpec.ofChange sessionPartsSpec)

/-- ITS FALSE NEIGHBOUR: 'it returns false'. Refute it at one input. -/
def sessionPartsWrong : ChangeSpec := { name := "sessionParts", fn := fun _ => fun
  | [d1, d2] => { results := [.lit (.bool false)], args := [d1, d2] }
  | _ => none }
def SessionPartsWrongFalsely : Prop := sessionPartsRow.holds Try.pinned (OpenSpec.ofChange sessionPartsWrong)

/-- 'ipsecgatelaw31.ChildNarrows': WHATEVER THE INPUT: true; the input reads as it did. -/
def childNarrowsSpec : ChangeSpec := { name := "childNarrows", fn := fun _ => fun
  | [d1, d2] => { results := [.lit (.bool true)], args := [d1, d2] }
  | _ => none }
def childNarrowsRow : OpenClaim := { program := "ytahiikdkgbbmfaa", sum := "7bfbf9f6d4368d3122106b718982a9c608b88d2e73703227d7597ee082eae492", func := "ipsecgate/ipsecgatelaw31.ChildNarrows", spec := "childNarrows", apart := false }
def ChildNarrowsSaid : Prop := childNarrowsRow.holds Try.pinned (OpenSpec.ofChange childNarrowsSpec)

/-- ITS FALSE NEIGHBOUR: 'it returns false'. Refute it at one input. -/
def childNarrowsWrong : ChangeSpec := { name := "childNarrows", fn := fun _ => fun
  | [d1, d2] => { results := [.lit (.bool false)], args := [d1, d2] }
  | _ => none }
def ChildNarrowsWrongFalsely : Prop := childNarrowsRow.holds Try.pinned (OpenSpec.ofChange childNarrowsWrong)

/-- 'ipsecgatelaw31.ChildFirst': WHATEVER THE INPUT: true; the input reads as it did. -/
def childFirstSpec : ChangeSpec := { name := "childFirst", fn := fun _ => fun
  | [d] => { results := [.lit (.bool true)], args := [d] }
  | _ => none }
def childFirstRow : OpenClaim := { program := "ytahiikdkgbbmfaa", sum := "7bfbf9f6d4368d3122106b718982a9c608b88d2e73703227d7597ee082eae492", func := "ipsecgate/ipsecgatelaw31.ChildFirst", spec := "childFirst", apart := false }
def ChildFirstSaid : Prop := childFirstRow.holds Try.pinned (OpenSpec.ofChange childFirstSpec)

/-- ITS FALSE NEIGHBOUR: 'it returns false'. Refute it at one input. -/
def childFirstWrong : ChangeSpec := { name := "childFirst", fn := fun _ => fun
  | [d] => { results := [.lit (.bool false)], args := [d] }
  | _ => none }
def ChildFirstWrongFalsely : Prop := childFirstRow.holds Try.pinned (OpenSpec.ofChange childFirstWrong)

/-- 'ipsecgatelaw28.SessionReads': WHATEVER THE INPUT: true; the input reads as it did. -/
def sessionReadsSpec : ChangeSpec := { name := "sessionReads", fn := fun _ => fun
  | [d1, d2] => { results := [.lit (.bool true)], args := [d1, d2] }
  | _ => none }
def sessionReadsRow : OpenClaim := { program := "ytahiikdkgbbmfaa", sum := "7bfbf9f6d4368d3122106b718982a9c608b88d2e73703227d7597ee082eae492", func := "ipsecgate/ipsecgatelaw28.SessionReads", spec := "sessionReads", recurses := true, loops := true, apart := false }
def SessionReadsSaid : Prop := sessionReadsRow.holds Try.pinned (OpenSpec.ofChange sessionReadsSpec)

/-- ITS FALSE NEIGHBOUR: 'it returns false'. Refute it at one input. -/
def sessionReadsWrong : ChangeSpec := { name := "sessionReads", fn := fun _ => fun
  | [d1, d2] => { results := [.lit (.bool false)], args := [d1, d2] }
  | _ => none }
def SessionReadsWrongFalsely : Prop := sessionReadsRow.holds Try.pinned (OpenSpec.ofChange sessionReadsWrong)

/-- 'ipsecgatelaw28.SessionBoxes': WHATEVER THE INPUT: true; the input reads as it did. -/
def sessionBoxesSpec : ChangeSpec := { name := "sessionBoxes", fn := fun _ => fun
  | [d1, d2, d3, d4, d5, d6] => { results := [.lit (.bool true)], args := [d1, d2, d3, d4, d5, d6] }
  | _ => none }
def sessionBoxesRow : OpenClaim := { program := "ytahiikdkgbbmfaa", sum := "7bfbf9f6d4368d3122106b718982a9c608b88d2e73703227d7597ee082eae492", func := "ipsecgate/ipsecgatelaw28.SessionBoxes", spec := "sessionBoxes", recurses := true, apart := false }
def SessionBoxesSaid : Prop := sessionBoxesRow.holds Try.pinned (OpenSpec.ofChange sessionBoxesSpec)

/-- ITS FALSE NEIGHBOUR: 'it returns false'. Refute it at one input. -/
def sessionBoxesWrong : ChangeSpec := { name := "sessionBoxes", fn := fun _ => fun
  | [d1, d2, d3, d4, d5, d6] => { results := [.lit (.bool false)], args := [d1, d2, d3, d4, d5, d6] }
  | _ => none }
def SessionBoxesWrongFalsely : Prop := sessionBoxesRow.holds Try.pinned (OpenSpec.ofChange sessionBoxesWrong)

/-- 'ipsecgatelaw28.SessionWrites': WHATEVER THE INPUT: true; the input reads as it did. -/
def sessionWritesSpec : ChangeSpec := { name := "sessionWrites", fn := fun _ => fun
  | [d] => { results := [.lit (.bool true)], args := [d] }
  | _ => none }
def sessionWritesRow : OpenClaim := { program := "ytahiikdkgbbmfaa", sum := "7bfbf9f6d4368d3122106b718982a9c608b88d2e73703227d7597ee082eae492", func := "ipsecgate/ipsecgatelaw28.SessionWrites", spec := "sessionWrites", recurses := true, apart := false }
def SessionWritesSaid : Prop := sessionWritesRow.holds Try.pinned (OpenSpec.ofChange sessionWritesSpec)

/-- ITS FALSE NEIGHBOUR: 'it returns false'. Refute it at one input. -/
def sessionWritesWrong : ChangeSpec := { name := "sessionWrites", fn := fun _ => fun
  | [d] => { results := [.lit (.bool false)], args := [d] }
  | _ => none }
def SessionWritesWrongFalsely : Prop := sessionWritesRow.holds Try.pinned (OpenSpec.ofChange sessionWritesWrong)

/-- 'ipsecgatelaw28.SessionBinds': WHATEVER THE INPUT: true; the input reads as it did. -/
def sessionBindsSpec : ChangeSpec := { name := "sessionBinds", fn := fun _ => fun
  | [d1, d2, d3] => { results := [.lit (.bool true)], args := [d1, d2, d3] }
  | _ => none }
def sessionBindsRow : OpenClaim := { program := "ytahiikdkgbbmfaa", sum := "7bfbf9f6d4368d3122106b718982a9c608b88d2e73703227d7597ee082eae492", func := "ipsecgate/ipsecgatelaw28.SessionBinds", spec := "sessionBinds", recurses := true, apart := false }
def SessionBindsSaid : Prop := sessionBindsRow.holds Try.pinned (OpenSpec.ofChange sessionBindsSpec)

/-- ITS FALSE NEIGHBOUR: 'it returns false'. Refute it at one input. -/
def sessionBindsWrong : ChangeSpec := { name := "sessionBinds", fn := fun _ => fun
  | [d1, d2, d3] => { results := [.lit (.bool false)], args := [d1, d2, d3] }
  | _ => none }
def SessionBindsWrongFalsely : Prop := sessionBindsRow.holds Try.pinned (OpenSpec.ofChange sessionBindsWrong)

/- THE SECOND FORM. 'bulk': how many values and letters a reading holds, each counted each time it is reached (what is shared counts as often as it is met; a slice's spare places count too). A statement '..UptoSaid' is the law's where the arguments, and the package variables that the reading takes, are together of bulk at most 1048576: NARROWER than '..Said'. Prove '..Said' where nothing that the law and all that it calls make is longer than what came in: it says more and counts as full. Else prove '..UptoSaid'. A law counts once. -/
mutual
def uptoBulk {H : Type} : DataW H → Nat
  | .lit (.string bytes) => bytes.length + 1
  | .lit _ => 1
  | .nil => 1
  | .ptr d => uptoBulk d + 1
  | .slice elems spare => uptoBulkAll elems + uptoBulkAll spare + 1
  | .agg parts => uptoBulkAll parts + 1
  | .iface _ d => uptoBulk d + 1
  | .map entries => uptoBulkEntries entries + 1
  | .held _ => 1
def uptoBulkAll {H : Type} : List (DataW H) → Nat
  | [] => 0
  | d :: r => uptoBulk d + uptoBulkAll r
def uptoBulkEntries {H : Type} : List (Lit × DataW H) → Nat
  | [] => 0
  | x :: r => uptoBulkEntry x + uptoBulkEntries r
def uptoBulkEntry {H : Type} : Lit × DataW H → Nat
  | (.string bytes, d) => bytes.length + uptoBulk d + 1
  | (_, d) => uptoBulk d + 1
 end
def uptoSmall : (H : Type) → List (DataW H) → Bool := fun _ ds => decide (uptoBulkAll ds ≤ 1048576)
def OpenSpec.upto (s : _root_.Go.ChangeSpec) : _root_.Go.OpenSpec := { _root_.Go.OpenSpec.ofChange s with cond := some uptoSmall }

/-- 'ipsecgatelaw28.SessionNames', WHERE WHAT IT READS IS OF BULK AT MOST 1048576: true; the input reads as it did. -/
def sessionNamesUptoRow : OpenClaim := { program := "ytahiikdkgbbmfaa", sum := "7bfbf9f6d4368d3122106b718982a9c608b88d2e73703227d7597ee082eae492", func := "ipsecgate/ipsecgatelaw28.SessionNames", spec := "sessionNames", recurses := true, apart := false, narrowed := true }
def SessionNamesUptoSaid : Prop := sessionNamesUptoRow.holds Try.pinned (OpenSpec.upto sessionNamesSpec)

/-- 'ipsecgatelaw28.SessionFirst', WHERE WHAT IT READS IS OF BULK AT MOST 1048576: true; the input reads as it did. -/
def sessionFirstUptoRow : OpenClaim := { program := "ytahiikdkgbbmfaa", sum := "7bfbf9f6d4368d3122106b718982a9c608b88d2e73703227d7597ee082eae492", func := "ipsecgate/ipsecgatelaw28.SessionFirst", spec := "sessionFirst", recurses := true, apart := false, narrowed := true }
def SessionFirstUptoSaid : Prop := sessionFirstUptoRow.holds Try.pinned (OpenSpec.upto sessionFirstSpec)

/-- 'ipsecgatelaw41.DataplanePackets', WHERE WHAT IT READS IS OF BULK AT MOST 1048576: true; the input reads as it did. -/
def dataplanePacketsUptoRow : OpenClaim := { program := "ytahiikdkgbbmfaa", sum := "7bfbf9f6d4368d3122106b718982a9c608b88d2e73703227d7597ee082eae492", func := "ipsecgate/ipsecgatelaw41.DataplanePackets", spec := "dataplanePackets", recurses := true, apart := false, narrowed := true }
def DataplanePacketsUptoSaid : Prop := dataplanePacketsUptoRow.holds Try.pinned (OpenSpec.upto dataplanePacketsSpec)

/-- 'ipsecgatelaw28.SessionParts', WHERE WHAT IT READS IS OF BULK AT MOST 1048576: true; the input reads as it did. -/
def sessionPartsUptoRow : OpenClaim := { program := "ytahiikdkgbbmfaa", sum := "7bfbf9f6d4368d3122106b718982a9c608b88d2e73703227d7597ee082eae492", func := "ipsecgate/ipsecgatelaw28.SessionParts", spec := "sessionParts", recurses := true, apart := false, narrowed := true }
def SessionPartsUptoSaid : Prop := sessionPartsUptoRow.holds Try.pinned (OpenSpec.upto sessionPartsSpec)

/-- 'ipsecgatelaw31.ChildNarrows', WHERE WHAT IT READS IS OF BULK AT MOST 1048576: true; the input reads as it did. -/
def childNarrowsUptoRow : OpenClaim := { program := "ytahiikdkgbbmfaa", sum := "7bfbf9f6d4368d3122106b718982a9c608b88d2e73703227d7597ee082eae492", func := "ipsecgate/ipsecgatelaw31.ChildNarrows", spec := "childNarrows", apart := false, narrowed := true }
def ChildNarrowsUptoSaid : Prop := childNarrowsUptoRow.holds Try.pinned (OpenSpec.upto childNarrowsSpec)

/-- 'ipsecgatelaw31.ChildFirst', WHERE WHAT IT READS IS OF BULK AT MOST 1048576: true; the input reads as it did. -/
def childFirstUptoRow : OpenClaim := { program := "ytahiikdkgbbmfaa", sum := "7bfbf9f6d4368d3122106b718982a9c608b88d2e73703227d7597ee082eae492", func := "ipsecgate/ipsecgatelaw31.ChildFirst", spec := "childFirst", apart := false, narrowed := true }
def ChildFirstUptoSaid : Prop := childFirstUptoRow.holds Try.pinned (OpenSpec.upto childFirstSpec)

/-- 'ipsecgatelaw28.SessionReads', WHERE WHAT IT READS IS OF BULK AT MOST 1048576: true; the input reads as it did. -/
def sessionReadsUptoRow : OpenClaim := { program := "ytahiikdkgbbmfaa", sum := "7bfbf9f6d4368d3122106b718982a9c608b88d2e73703227d7597ee082eae492", func := "ipsecgate/ipsecgatelaw28.SessionReads", spec := "sessionReads", recurses := true, loops := true, apart := false, narrowed := true }
def SessionReadsUptoSaid : Prop := sessionReadsUptoRow.holds Try.pinned (OpenSpec.upto sessionReadsSpec)

/-- 'ipsecgatelaw28.SessionBoxes', WHERE WHAT IT READS IS OF BULK AT MOST 1048576: true; the input reads as it did. -/
def sessionBoxesUptoRow : OpenClaim := { program := "ytahiikdkgbbmfaa", sum := "7bfbf9f6d4368d3122106b718982a9c608b88d2e73703227d7597ee082eae492", func := "ipsecgate/ipsecgatelaw28.SessionBoxes", spec := "sessionBoxes", recurses := true, apart := false, narrowed := true }
def SessionBoxesUptoSaid : Prop := sessionBoxesUptoRow.holds Try.pinned (OpenSpec.upto sessionBoxesSpec)

/-- 'ipsecgatelaw28.SessionWrites', WHERE WHAT IT READS IS OF BULK AT MOST 1048576: true; the input reads as it did. -/
def sessionWritesUptoRow : OpenClaim := { program := "ytahiikdkgbbmfaa", sum := "7bfbf9f6d4368d3122106b718982a9c608b88d2e73703227d7597ee082eae492", func := "ipsecgate/ipsecgatelaw28.SessionWrites", spec := "sessionWrites", recurses := true, apart := false, narrowed := true }
def SessionWritesUptoSaid : Prop := sessionWritesUptoRow.holds Try.pinned (OpenSpec.upto sessionWritesSpec)

/-- 'ipsecgatelaw28.SessionBinds', WHERE WHAT IT READS IS OF BULK AT MOST 1048576: true; the input reads as it did. -/
def sessionBindsUptoRow : OpenClaim := { program := "ytahiikdkgbbmfaa", sum := "7bfbf9f6d4368d3122106b718982a9c608b88d2e73703227d7597ee082eae492", func := "ipsecgate/ipsecgatelaw28.SessionBinds", spec := "sessionBinds", recurses := true, apart := false, narrowed := true }
def SessionBindsUptoSaid : Prop := sessionBindsUptoRow.holds Try.pinned (OpenSpec.upto sessionBindsSpec)

end Rows
end Go.Proofs.Ytahiikdkgbbmfaa
