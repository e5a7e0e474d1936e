/-
  NARROWER THAN 'FOR EVERY INPUT', by the rows' own cells (each row's printed sentence says how): SessionReads: loops.
  DERIVED. THE GIVEN ROWS OF THIS SEAT. 11 by the template 'for every input the law returns true; each argument reads behind the call as it read before'; 0 by the template 'total and deterministic' (their statements: YtmfhnkhfnlckaaaTotals.lean).
  GIVEN WITH THE SEED: the statements are not yours to turn. If you find one false, say at which input.
  Laid BY PROGRAM, IN A SANDBOX (cutbox-rows.mjs): the forced cells as the released guide's own fill.sh prints them over the translation ff7e489dc57553d8… (all of the seat's roots in one cut). By AI agents, Wed Nov 11 2026. No macro, syntax, notation, axiom, sorry.
-/
import Derived.Test.YtmfhnkhfnlckaaaChecked
import GoSem.Claim
import GoSem.ClaimJoined
import GoSem.ClaimMapViews
import Derived.JoinedTies
import Derived.KernelRfl
namespace Go.Proofs.Ytmfhnkhfnlckaaa
/- THE CELL 'sum', in the pinned program and in every row, IS THE sha256 OF THE DUMP (.gsa) THAT YtmfhnkhfnlckaaaProg.lean LOADS. Nothing in Lean hashes anything: it is a label: what it is worth is what the hold of that sum in a sandbox is worth. -/
noncomputable def Try.pinned : Pinned := { name := "ytmfhnkhfnlckaaa", sum := "ff7e489dc57553d8c325121416a4f9cad045785531b6d1fc5afa3c46ce4e5e03", checked := Try.checked }
namespace Rows
def none {H : Type} : Left H := { results := [], args := [] }

/-- 'ipsecgatelaw28.SessionReads': WHATEVER THE INPUT: true; the input reads as it did. -/
def sessionReadsSpec : ChangeSpec := { name := "sessionReads", fn := fun _ => fun
  | [d1, d2] => { results := [.lit (.bool true)], args := [d1, d2] }
  | _ => none }
def sessionReadsRow : OpenClaim := { program := "ytmfhnkhfnlckaaa", sum := "ff7e489dc57553d8c325121416a4f9cad045785531b6d1fc5afa3c46ce4e5e03", func := "ipsecgate/ipsecgatelaw28.SessionReads", spec := "sessionReads", recurses := true, loops := true, apart := false }
def SessionReadsSaid : Prop := sessionReadsRow.holds Try.pinned (OpenSpec.ofChange sessionReadsSpec)

/-- ITS FALSE NEIGHBOUR: 'it returns false'. Refute it at one input. -/
def sessionReadsWrong : ChangeSpec := { name := "sessionReads", fn := fun _ => fun
  | [d1, d2] => { results := [.lit (.bool false)], args := [d1, d2] }
  | _ => none }
def SessionReadsWrongFalsely : Prop := sessionReadsRow.holds Try.pinned (OpenSpec.ofChange sessionReadsWrong)

/-- 'ipsecgatelaw28.SessionBoxes': WHATEVER THE INPUT: true; the input reads as it did. -/
def sessionBoxesSpec : ChangeSpec := { name := "sessionBoxes", fn := fun _ => fun
  | [d1, d2, d3, d4, d5, d6] => { results := [.lit (.bool true)], args := [d1, d2, d3, d4, d5, d6] }
  | _ => none }
def sessionBoxesRow : OpenClaim := { program := "ytmfhnkhfnlckaaa", sum := "ff7e489dc57553d8c325121416a4f9cad045785531b6d1fc5afa3c46ce4e5e03", func := "ipsecgate/ipsecgatelaw28.SessionBoxes", spec := "sessionBoxes", recurses := true, apart := false }
def SessionBoxesSaid : Prop := sessionBoxesRow.holds Try.pinned (OpenSpec.ofChange sessionBoxesSpec)

/-- ITS FALSE NEIGHBOUR: 'it returns false'. Refute it at one input. -/
def sessionBoxesWrong : ChangeSpec := { name := "sessionBoxes", fn := fun _ => fun
  | [d1, d2, d3, d4, d5, d6] => { results := [.lit (.bool false)], args := [d1, d2, d3, d4, d5, d6] }
  | _ => none }
def SessionBoxesWrongFalsely : Prop := sessionBoxesRow.holds Try.pinned (OpenSpec.ofChange sessionBoxesWrong)

/-- 'ipsecgatelaw40.ResumeOnce': WHATEVER THE INPUT: true; the input reads as it did. -/
def resumeOnceSpec : ChangeSpec := { name := "resumeOnce", fn := fun _ => fun
  | [d] => { results := [.lit (.bool true)], args := [d] }
  | _ => none }
def resumeOnceRow : OpenClaim := { program := "ytmfhnkhfnlckaaa", sum := "ff7e489dc57553d8c325121416a4f9cad045785531b6d1fc5afa3c46ce4e5e03", func := "ipsecgate/ipsecgatelaw40.ResumeOnce", spec := "resumeOnce", unfollowed := true, recurses := true, apart := false }
def ResumeOnceSaid : Prop := resumeOnceRow.holds Try.pinned (OpenSpec.ofChange resumeOnceSpec)

/-- ITS FALSE NEIGHBOUR: 'it returns false'. Refute it at one input. -/
def resumeOnceWrong : ChangeSpec := { name := "resumeOnce", fn := fun _ => fun
  | [d] => { results := [.lit (.bool false)], args := [d] }
  | _ => none }
def ResumeOnceWrongFalsely : Prop := resumeOnceRow.holds Try.pinned (OpenSpec.ofChange resumeOnceWrong)

/-- 'ipsecgatelaw40.ResumeKeys': WHATEVER THE INPUT: true; the input reads as it did. -/
def resumeKeysSpec : ChangeSpec := { name := "resumeKeys", fn := fun _ => fun
  | [d1, d2, d3] => { results := [.lit (.bool true)], args := [d1, d2, d3] }
  | _ => none }
def resumeKeysRow : OpenClaim := { program := "ytmfhnkhfnlckaaa", sum := "ff7e489dc57553d8c325121416a4f9cad045785531b6d1fc5afa3c46ce4e5e03", func := "ipsecgate/ipsecgatelaw40.ResumeKeys", spec := "resumeKeys", unfollowed := true, recurses := true, apart := false }
def ResumeKeysSaid : Prop := resumeKeysRow.holds Try.pinned (OpenSpec.ofChange resumeKeysSpec)

/-- ITS FALSE NEIGHBOUR: 'it returns false'. Refute it at one input. -/
def resumeKeysWrong : ChangeSpec := { name := "resumeKeys", fn := fun _ => fun
  | [d1, d2, d3] => { results := [.lit (.bool false)], args := [d1, d2, d3] }
  | _ => none }
def ResumeKeysWrongFalsely : Prop := resumeKeysRow.holds Try.pinned (OpenSpec.ofChange resumeKeysWrong)

/-- 'ipsecgatelaw33.InitialRepeats': WHATEVER THE INPUT: true; the input reads as it did. -/
def initialRepeatsSpec : ChangeSpec := { name := "initialRepeats", fn := fun _ => fun
  | [d] => { results := [.lit (.bool true)], args := [d] }
  | _ => none }
def initialRepeatsRow : OpenClaim := { program := "ytmfhnkhfnlckaaa", sum := "ff7e489dc57553d8c325121416a4f9cad045785531b6d1fc5afa3c46ce4e5e03", func := "ipsecgate/ipsecgatelaw33.InitialRepeats", spec := "initialRepeats", unfollowed := true, recurses := true, apart := false }
def InitialRepeatsSaid : Prop := initialRepeatsRow.holds Try.pinned (OpenSpec.ofChange initialRepeatsSpec)

/-- ITS FALSE NEIGHBOUR: 'it returns false'. Refute it at one input. -/
def initialRepeatsWrong : ChangeSpec := { name := "initialRepeats", fn := fun _ => fun
  | [d] => { results := [.lit (.bool false)], args := [d] }
  | _ => none }
def InitialRepeatsWrongFalsely : Prop := initialRepeatsRow.holds Try.pinned (OpenSpec.ofChange initialRepeatsWrong)

/-- 'ipsecgatelaw33.InitialKeys': WHATEVER THE INPUT: true; the input reads as it did. -/
def initialKeysSpec : ChangeSpec := { name := "initialKeys", fn := fun _ => fun
  | [d1, d2, d3] => { results := [.lit (.bool true)], args := [d1, d2, d3] }
  | _ => none }
def initialKeysRow : OpenClaim := { program := "ytmfhnkhfnlckaaa", sum := "ff7e489dc57553d8c325121416a4f9cad045785531b6d1fc5afa3c46ce4e5e03", func := "ipsecgate/ipsecgatelaw33.InitialKeys", spec := "initialKeys", unfollowed := true, recurses := true, apart := false }
def InitialKeysSaid : Prop := initialKeysRow.holds Try.pinned (OpenSpec.ofChange initialKeysSpec)

/-- ITS FALSE NEIGHBOUR: 'it returns false'. Refute it at one input. -/
def initialKeysWrong : ChangeSpec := { name := "initialKeys", fn := fun _ => fun
  | [d1, d2, d3] => { results := [.lit (.bool false)], args := [d1, d2, d3] }
  | _ => none }
def InitialKeysWrongFalsely : Prop := initialKeysRow.holds Try.pinned (OpenSpec.ofChange initialKeysWrong)

/-- 'ipsecgatelaw33.InitialStateless': WHATEVER THE INPUT: true; the input reads as it did. -/
def initialStatelessSpec : ChangeSpec := { name := "initialStateless", fn := fun _ => fun
  | [d1, d2] => { results := [.lit (.bool true)], args := [d1, d2] }
  | _ => none }
def initialStatelessRow : OpenClaim := { program := "ytmfhnkhfnlckaaa", sum := "ff7e489dc57553d8c325121416a4f9cad045785531b6d1fc5afa3c46ce4e5e03", func := "ipsecgate/ipsecgatelaw33.InitialStateless", spec := "initialStateless", unfollowed := true, recurses := true, apart := false }
def InitialStatelessSaid : Prop := initialStatelessRow.holds Try.pinned (OpenSpec.ofChange initialStatelessSpec)

/-- ITS FALSE NEIGHBOUR: 'it returns false'. Refute it at one input. -/
def initialStatelessWrong : ChangeSpec := { name := "initialStateless", fn := fun _ => fun
  | [d1, d2] => { results := [.lit (.bool false)], args := [d1, d2] }
  | _ => none }
def InitialStatelessWrongFalsely : Prop := initialStatelessRow.holds Try.pinned (OpenSpec.ofChange initialStatelessWrong)

/-- 'ipsecgatelaw33.InitialBounds': WHATEVER THE INPUT: true; the input reads as it did. -/
def initialBoundsSpec : ChangeSpec := { name := "initialBounds", fn := fun _ => fun
  | [d] => { results := [.lit (.bool true)], args := [d] }
  | _ => none }
def initialBoundsRow : OpenClaim := { program := "ytmfhnkhfnlckaaa", sum := "ff7e489dc57553d8c325121416a4f9cad045785531b6d1fc5afa3c46ce4e5e03", func := "ipsecgate/ipsecgatelaw33.InitialBounds", spec := "initialBounds", unfollowed := true, recurses := true, apart := false }
def InitialBoundsSaid : Prop := initialBoundsRow.holds Try.pinned (OpenSpec.ofChange initialBoundsSpec)

/-- ITS FALSE NEIGHBOUR: 'it returns false'. Refute it at one input. -/
def initialBoundsWrong : ChangeSpec := { name := "initialBounds", fn := fun _ => fun
  | [d] => { results := [.lit (.bool false)], args := [d] }
  | _ => none }
def InitialBoundsWrongFalsely : Prop := initialBoundsRow.holds Try.pinned (OpenSpec.ofChange initialBoundsWrong)

/-- 'ipsecgatelaw31.ChildRefuses': WHATEVER THE INPUT: true; the input reads as it did. -/
def childRefusesSpec : ChangeSpec := { name := "childRefuses", fn := fun _ => fun
  | [d1, d2] => { results := [.lit (.bool true)], args := [d1, d2] }
  | _ => none }
def childRefusesRow : OpenClaim := { program := "ytmfhnkhfnlckaaa", sum := "ff7e489dc57553d8c325121416a4f9cad045785531b6d1fc5afa3c46ce4e5e03", func := "ipsecgate/ipsecgatelaw31.ChildRefuses", spec := "childRefuses", unfollowed := true, recurses := true, apart := false }
def ChildRefusesSaid : Prop := childRefusesRow.holds Try.pinned (OpenSpec.ofChange childRefusesSpec)

/-- ITS FALSE NEIGHBOUR: 'it returns false'. Refute it at one input. -/
def childRefusesWrong : ChangeSpec := { name := "childRefuses", fn := fun _ => fun
  | [d1, d2] => { results := [.lit (.bool false)], args := [d1, d2] }
  | _ => none }
def ChildRefusesWrongFalsely : Prop := childRefusesRow.holds Try.pinned (OpenSpec.ofChange childRefusesWrong)

/-- 'ipsecgatelaw31.ChildMatches': WHATEVER THE INPUT: true; the input reads as it did. -/
def childMatchesSpec : ChangeSpec := { name := "childMatches", fn := fun _ => fun
  | [d] => { results := [.lit (.bool true)], args := [d] }
  | _ => none }
def childMatchesRow : OpenClaim := { program := "ytmfhnkhfnlckaaa", sum := "ff7e489dc57553d8c325121416a4f9cad045785531b6d1fc5afa3c46ce4e5e03", func := "ipsecgate/ipsecgatelaw31.ChildMatches", spec := "childMatches", unfollowed := true, recurses := true, apart := false }
def ChildMatchesSaid : Prop := childMatchesRow.holds Try.pinned (OpenSpec.ofChange childMatchesSpec)

/-- ITS FALSE NEIGHBOUR: 'it returns false'. Refute it at one input. -/
def childMatchesWrong : ChangeSpec := { name := "childMatches", fn := fun _ => fun
  | [d] => { results := [.lit (.bool false)], args := [d] }
  | _ => none }
def ChildMatchesWrongFalsely : Prop := childMatchesRow.holds Try.pinned (OpenSpec.ofChange childMatchesWrong)

/-- 'ipsecgatelaw31.ChildFull': WHATEVER THE INPUT: true; the input reads as it did. -/
def childFullSpec : ChangeSpec := { name := "childFull", fn := fun _ => fun
  | [d] => { results := [.lit (.bool true)], args := [d] }
  | _ => none }
def childFullRow : OpenClaim := { program := "ytmfhnkhfnlckaaa", sum := "ff7e489dc57553d8c325121416a4f9cad045785531b6d1fc5afa3c46ce4e5e03", func := "ipsecgate/ipsecgatelaw31.ChildFull", spec := "childFull", unfollowed := true, recurses := true, apart := false }
def ChildFullSaid : Prop := childFullRow.holds Try.pinned (OpenSpec.ofChange childFullSpec)

/-- ITS FALSE NEIGHBOUR: 'it returns false'. Refute it at one input. -/
def childFullWrong : ChangeSpec := { name := "childFull", fn := fun _ => fun
  | [d] => { results := [.lit (.bool false)], args := [d] }
  | _ => none }
def ChildFullWrongFalsely : Prop := childFullRow.holds Try.pinned (OpenSpec.ofChange childFullWrong)

/- THE SECOND FORM. 'bulk': how many values and letters a reading holds, each counted each time it is reached (what is shared counts as often as it is met; a slice's spare places count too). A statement '..UptoSaid' is the law's where the arguments, and the package variables that the reading takes, are together of bulk at most 1048576: NARROWER than '..Said'. Prove '..Said' where nothing that the law and all that it calls make is longer than what came in: it says more and counts as full. Else prove '..UptoSaid'. A law counts once. -/
mutual
def uptoBulk {H : Type} : DataW H → Nat
  | .lit (.string bytes) => bytes.length + 1
  | .lit _ => 1
  | .nil => 1
  | .ptr d => uptoBulk d + 1
  | .slice elems spare => uptoBulkAll elems + uptoBulkAll spare + 1
  | .agg parts => uptoBulkAll parts + 1
  | .iface _ d => uptoBulk d + 1
  | .map entries => uptoBulkEntries entries + 1
  | .held _ => 1
def uptoBulkAll {H : Type} : List (DataW H) → Nat
  | [] => 0
  | d :: r => uptoBulk d + uptoBulkAll r
def uptoBulkEntries {H : Type} : List (Lit × DataW H) → Nat
  | [] => 0
  | x :: r => uptoBulkEntry x + uptoBulkEntries r
def uptoBulkEntry {H : Type} : Lit × DataW H → Nat
  | (.string bytes, d) => bytes.length + uptoBulk d + 1
  | (_, d) => uptoBulk d + 1
 end
def uptoSmall : (H : Type) → List (DataW H) → Bool := fun _ ds => decide (uptoBulkAll ds ≤ 1048576)
def OpenSpec.upto (s : _root_.Go.ChangeSpec) : _root_.Go.OpenSpec := { _root_.Go.OpenSpec.ofChange s with cond := some uptoSmall }

/-- 'ipsecgatelaw28.SessionReads', WHERE WHAT IT READS IS OF BULK AT MOST 1048576: true; the input reads as it did. -/
def sessionReadsUptoRow : OpenClaim := { program := "ytmfhnkhfnlckaaa", sum := "ff7e489dc57553d8c325121416a4f9cad045785531b6d1fc5afa3c46ce4e5e03", func := "ipsecgate/ipsecgatelaw28.SessionReads", spec := "sessionReads", recurses := true, loops := true, apart := false, narrowed := true }
def SessionReadsUptoSaid : Prop := sessionReadsUptoRow.holds Try.pinned (OpenSpec.upto sessionReadsSpec)

/-- 'ipsecgatelaw28.SessionBoxes', WHERE WHAT IT READS IS OF BULK AT MOST 1048576: true; the input reads as it did. -/
def sessionBoxesUptoRow : OpenClaim := { program := "ytmfhnkhfnlckaaa", sum := "ff7e489dc57553d8c325121416a4f9cad045785531b6d1fc5afa3c46ce4e5e03", func := "ipsecgate/ipsecgatelaw28.SessionBoxes", spec := "sessionBoxes", recurses := true, apart := false, narrowed := true }
def SessionBoxesUptoSaid : Prop := sessionBoxesUptoRow.holds Try.pinned (OpenSpec.upto sessionBoxesSpec)

/-- 'ipsecgatelaw40.ResumeOnce', WHERE WHAT IT READS IS OF BULK AT MOST 1048576: true; the input reads as it did. -/
def resumeOnceUptoRow : OpenClaim := { program := "ytmfhnkhfnlckaaa", sum := "ff7e489dc57553d8c325121416a4f9cad045785531b6d1fc5afa3c46ce4e5e03", func := "ipsecgate/ipsecgatelaw40.ResumeOnce", spec := "resumeOnce", unfollowed := true, recurses := true, apart := false, narrowed := true }
def ResumeOnceUptoSaid : Prop := resumeOnceUptoRow.holds Try.pinned (OpenSpec.upto resumeOnceSpec)

/-- 'ipsecgatelaw40.ResumeKeys', WHERE WHAT IT READS IS OF BULK AT MOST 1048576: true; the input reads as it did. -/
def resumeKeysUptoRow : OpenClaim := { program := "ytmfhnkhfnlckaaa", sum := "ff7e489dc57553d8c325121416a4f9cad045785531b6d1fc5afa3c46ce4e5e03", func := "ipsecgate/ipsecgatelaw40.ResumeKeys", spec := "resumeKeys", unfollowed := true, recurses := true, apart := false, narrowed := true }
def ResumeKeysUptoSaid : Prop := resumeKeysUptoRow.holds Try.pinned (OpenSpec.upto resumeKeysSpec)

/-- 'ipsecgatelaw33.InitialRepeats', WHERE WHAT IT READS IS OF BULK AT MOST 1048576: true; the input reads as it did. -/
def initialRepeatsUptoRow : OpenClaim := { program := "ytmfhnkhfnlckaaa", sum := "ff7e489dc57553d8c325121416a4f9cad045785531b6d1fc5afa3c46ce4e5e03", func := "ipsecgate/ipsecgatelaw33.InitialRepeats", spec := "initialRepeats", unfollowed := true, recurses := true, apart := false, narrowed := true }
def InitialRepeatsUptoSaid : Prop := initialRepeatsUptoRow.holds Try.pinned (OpenSpec.upto initialRepeatsSpec)

/-- 'ipsecgatelaw33.InitialKeys', WHERE WHAT IT READS IS OF BULK AT MOST 1048576: true; the input reads as it did. -/
def initialKeysUptoRow : OpenClaim := { program := "ytmfhnkhfnlckaaa", sum := "ff7e489dc57553d8c325121416a4f9cad045785531b6d1fc5afa3c46ce4e5e03", func := "ipsecgate/ipsecgatelaw33.InitialKeys", spec := "initialKeys", unfollowed := true, recurses := true, apart := false, narrowed := true }
def InitialKeysUptoSaid : Prop := initialKeysUptoRow.holds Try.pinned (OpenSpec.upto initialKeysSpec)

/-- 'ipsecgatelaw33.InitialStateless', WHERE WHAT IT READS IS OF BULK AT MOST 1048576: true; the input reads as it did. -/
def initialStatelessUptoRow : OpenClaim := { program := "ytmfhnkhfnlckaaa", sum := "ff7e489dc57553d8c325121416a4f9cad045785531b6d1fc5afa3c46ce4e5e03", func := "ipsecgate/ipsecgatelaw33.InitialStateless", spec := "initialStateless", unfollowed := true, recurses := true, apart := false, narrowed := true }
def InitialStatelessUptoSaid : Prop := initialStatelessUptoRow.holds Try.pinned (OpenSpec.upto initialStatelessSpec)

/-- 'ipsecgatelaw33.InitialBounds', WHERE WHAT IT READS IS OF BULK AT MOST 1048576: true; the input reads as it did. -/
def initialBoundsUptoRow : OpenClaim := { program := "ytmfhnkhfnlckaaa", sum := "ff7e489dc57553d8c325121416a4f9cad045785531b6d1fc5afa3c46ce4e5e03", func := "ipsecgate/ipsecgatelaw33.InitialBounds", spec := "initialBounds", unfollowed := true, recurses := true, apart := false, narrowed := true }
def InitialBoundsUptoSaid : Prop := initialBoundsUptoRow.holds Try.pinned (OpenSpec.upto initialBoundsSpec)

/-- 'ipsecgatelaw31.ChildRefuses', WHERE WHAT IT READS IS OF BULK AT MOST 1048576: true; the input reads as it did. -/
def childRefusesUptoRow : OpenClaim := { program := "ytmfhnkhfnlckaaa", sum := "ff7e489dc57553d8c325121416a4f9cad045785531b6d1fc5afa3c46ce4e5e03", func := "ipsecgate/ipsecgatelaw31.ChildRefuses", spec := "childRefuses", unfollowed := true, recurses := true, apart := false, narrowed := true }
def ChildRefusesUptoSaid : Prop := childRefusesUptoRow.holds Try.pinned (OpenSpec.upto childRefusesSpec)

/-- 'ipsecgatelaw31.ChildMatches', WHERE WHAT IT READS IS OF BULK AT MOST 1048576: true; the input reads as it did. -/
def childMatchesUptoRow : OpenClaim := { program := "ytmfhnkhfnlckaaa", sum := "ff7e489dc57553d8c325121416a4f9cad045785531b6d1fc5afa3c46ce4e5e03", func := "ipsecgate/ipsecgatelaw31.ChildMatches", spec := "childMatches", unfollowed := true, recurses := true, apart := false, narrowed := true }
def ChildMatchesUptoSaid : Prop := childMatchesUptoRow.holds Try.pinned (OpenSpec.upto childMatchesSpec)

/-- 'ipsecgatelaw31.ChildFull', WHERE WHAT IT READS IS OF BULK AT MOST 1048576: true; the input reads as it did. -/
def childFullUptoRow : OpenClaim := { program := "ytmfhnkhfnlckaaa", sum := "ff7e489dc57553d8c325121416a4f9cad045785531b6d1fc5afa3c46ce4e5e03", func := "ipsecgate/ipsecgatelaw31.ChildFull", spec := "childFull", unfollowed := true, recurses := true, apart := false, narrowed := true }
def ChildFullUptoSaid : Prop := childFullUptoRow.holds Try.pinned (OpenSpec.upto childFullSpec)

end Rows
end Go.Proofs.Ytmfhnkhfnlckaaa
