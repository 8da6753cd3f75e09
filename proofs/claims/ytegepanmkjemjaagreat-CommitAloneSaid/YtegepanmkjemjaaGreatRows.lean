/-
  No cell of these rows narrows 'for every input' (looked for: loops, veiled, ifaces, maps, wideKeys, modest, calm, conditions, laid).
  DERIVED. THE GIVEN ROWS OF THIS SEAT. 8 by the template 'for every input the law returns true; each argument reads behind the call as it read before'; 0 by the template 'total and deterministic' (their statements: YtegepanmkjemjaaGreatTotals.lean).
  GIVEN WITH THE SEED: the statements are not yours to turn. If you find one false, say at which input.
  Laid BY PROGRAM, IN A SANDBOX (cutbox-rows.mjs): the forced cells as the released guide's own fill.sh prints them over the translation d7df7c1253a6b3fc… (all of the seat's roots in one cut). By AI agents, Wed Nov 11 2026. No macro, syntax, notation, axiom, sorry.
-/
import Derived.Test.YtegepanmkjemjaaGreatChecked
import GoSem.Claim
import GoSem.ClaimJoined
import GoSem.ClaimMapViews
import Derived.JoinedTies
import Derived.KernelRfl
namespace Go.Proofs.YtegepanmkjemjaaGreat
/- THE CELL 'sum', in the pinned program and in every row, IS THE sha256 OF THE DUMP (.gsa) THAT YtegepanmkjemjaaGreatProg.lean LOADS. Nothing in Lean hashes anything: it is a label: what it is worth is what the hold of that sum in a sandbox is worth. -/
noncomputable def Tryz.pinned : Pinned := { name := "ytegepanmkjemjaagreat", sum := "d7df7c1253a6b3fc1b68d562132ea99258cebe2402f2a0cda1c352dccff33d76", checked := Tryz.checked }
namespace Rows
def none {H : Type} : Left H := { results := [], args := [] }

/-- 'bodegalaw12.CommitAlone': WHATEVER THE INPUT: true; the input reads as it did. -/
def commitAloneSpec : ChangeSpec := { name := "commitAlone", fn := fun _ => fun
  | [d1, d2, d3, d4, d5] => { results := [.lit (.bool true)], args := [d1, d2, d3, d4, d5] }
  | _ => none }
def commitAloneRow : OpenClaim := { program := "ytegepanmkjemjaagreat", sum := "d7df7c1253a6b3fc1b68d562132ea99258cebe2402f2a0cda1c352dccff33d76", func := "bodega/bodegalaw12.CommitAlone", spec := "commitAlone", unfollowed := true, recurses := true, apart := false }
def CommitAloneSaid : Prop := commitAloneRow.holds Tryz.pinned (OpenSpec.ofChange commitAloneSpec)

/-- ITS FALSE NEIGHBOUR: 'it returns false'. Refute it at one input. -/
def commitAloneWrong : ChangeSpec := { name := "commitAlone", fn := fun _ => fun
  | [d1, d2, d3, d4, d5] => { results := [.lit (.bool false)], args := [d1, d2, d3, d4, d5] }
  | _ => none }
def CommitAloneWrongFalsely : Prop := commitAloneRow.holds Tryz.pinned (OpenSpec.ofChange commitAloneWrong)

/-- 'bodegalaw12.CommitRivals': WHATEVER THE INPUT: true; the input reads as it did. -/
def commitRivalsSpec : ChangeSpec := { name := "commitRivals", fn := fun _ => fun
  | [d1, d2, d3] => { results := [.lit (.bool true)], args := [d1, d2, d3] }
  | _ => none }
def commitRivalsRow : OpenClaim := { program := "ytegepanmkjemjaagreat", sum := "d7df7c1253a6b3fc1b68d562132ea99258cebe2402f2a0cda1c352dccff33d76", func := "bodega/bodegalaw12.CommitRivals", spec := "commitRivals", unfollowed := true, recurses := true, apart := false }
def CommitRivalsSaid : Prop := commitRivalsRow.holds Tryz.pinned (OpenSpec.ofChange commitRivalsSpec)

/-- ITS FALSE NEIGHBOUR: 'it returns false'. Refute it at one input. -/
def commitRivalsWrong : ChangeSpec := { name := "commitRivals", fn := fun _ => fun
  | [d1, d2, d3] => { results := [.lit (.bool false)], args := [d1, d2, d3] }
  | _ => none }
def CommitRivalsWrongFalsely : Prop := commitRivalsRow.holds Tryz.pinned (OpenSpec.ofChange commitRivalsWrong)

/-- 'bodegalaw12.CommitCounts': WHATEVER THE INPUT: true; the input reads as it did. -/
def commitCountsSpec : ChangeSpec := { name := "commitCounts", fn := fun _ => fun
  | [d1, d2, d3, d4] => { results := [.lit (.bool true)], args := [d1, d2, d3, d4] }
  | _ => none }
def commitCountsRow : OpenClaim := { program := "ytegepanmkjemjaagreat", sum := "d7df7c1253a6b3fc1b68d562132ea99258cebe2402f2a0cda1c352dccff33d76", func := "bodega/bodegalaw12.CommitCounts", spec := "commitCounts", unfollowed := true, recurses := true, apart := false }
def CommitCountsSaid : Prop := commitCountsRow.holds Tryz.pinned (OpenSpec.ofChange commitCountsSpec)

/-- ITS FALSE NEIGHBOUR: 'it returns false'. Refute it at one input. -/
def commitCountsWrong : ChangeSpec := { name := "commitCounts", fn := fun _ => fun
  | [d1, d2, d3, d4] => { results := [.lit (.bool false)], args := [d1, d2, d3, d4] }
  | _ => none }
def CommitCountsWrongFalsely : Prop := commitCountsRow.holds Tryz.pinned (OpenSpec.ofChange commitCountsWrong)

/-- 'bodegalaw12.CommitReads': WHATEVER THE INPUT: true; the input reads as it did. -/
def commitReadsSpec : ChangeSpec := { name := "commitReads", fn := fun _ => fun
  | [d1, d2, d3, d4] => { results := [.lit (.bool true)], args := [d1, d2, d3, d4] }
  | _ => none }
def commitReadsRow : OpenClaim := { program := "ytegepanmkjemjaagreat", sum := "d7df7c1253a6b3fc1b68d562132ea99258cebe2402f2a0cda1c352dccff33d76", func := "bodega/bodegalaw12.CommitReads", spec := "commitReads", unfollowed := true, recurses := true, apart := false }
def CommitReadsSaid : Prop := commitReadsRow.holds Tryz.pinned (OpenSpec.ofChange commitReadsSpec)

/-- ITS FALSE NEIGHBOUR: 'it returns false'. Refute it at one input. -/
def commitReadsWrong : ChangeSpec := { name := "commitReads", fn := fun _ => fun
  | [d1, d2, d3, d4] => { results := [.lit (.bool false)], args := [d1, d2, d3, d4] }
  | _ => none }
def CommitReadsWrongFalsely : Prop := commitReadsRow.holds Tryz.pinned (OpenSpec.ofChange commitReadsWrong)

/-- 'bodegalaw12.CommitFates': WHATEVER THE INPUT: true; the input reads as it did. -/
def commitFatesSpec : ChangeSpec := { name := "commitFates", fn := fun _ => fun
  | [d1, d2, d3, d4, d5] => { results := [.lit (.bool true)], args := [d1, d2, d3, d4, d5] }
  | _ => none }
def commitFatesRow : OpenClaim := { program := "ytegepanmkjemjaagreat", sum := "d7df7c1253a6b3fc1b68d562132ea99258cebe2402f2a0cda1c352dccff33d76", func := "bodega/bodegalaw12.CommitFates", spec := "commitFates", unfollowed := true, recurses := true, apart := false }
def CommitFatesSaid : Prop := commitFatesRow.holds Tryz.pinned (OpenSpec.ofChange commitFatesSpec)

/-- ITS FALSE NEIGHBOUR: 'it returns false'. Refute it at one input. -/
def commitFatesWrong : ChangeSpec := { name := "commitFates", fn := fun _ => fun
  | [d1, d2, d3, d4, d5] => { results := [.lit (.bool false)], args := [d1, d2, d3, d4, d5] }
  | _ => none }
def CommitFatesWrongFalsely : Prop := commitFatesRow.holds Tryz.pinned (OpenSpec.ofChange commitFatesWrong)

/-- 'bodegalaw12.CommitSteps': WHATEVER THE INPUT: true; the input reads as it did. -/
def commitStepsSpec : ChangeSpec := { name := "commitSteps", fn := fun _ => fun
  | [d1, d2, d3, d4, d5] => { results := [.lit (.bool true)], args := [d1, d2, d3, d4, d5] }
  | _ => none }
def commitStepsRow : OpenClaim := { program := "ytegepanmkjemjaagreat", sum := "d7df7c1253a6b3fc1b68d562132ea99258cebe2402f2a0cda1c352dccff33d76", func := "bodega/bodegalaw12.CommitSteps", spec := "commitSteps", unfollowed := true, recurses := true, apart := false }
def CommitStepsSaid : Prop := commitStepsRow.holds Tryz.pinned (OpenSpec.ofChange commitStepsSpec)

/-- ITS FALSE NEIGHBOUR: 'it returns false'. Refute it at one input. -/
def commitStepsWrong : ChangeSpec := { name := "commitSteps", fn := fun _ => fun
  | [d1, d2, d3, d4, d5] => { results := [.lit (.bool false)], args := [d1, d2, d3, d4, d5] }
  | _ => none }
def CommitStepsWrongFalsely : Prop := commitStepsRow.holds Tryz.pinned (OpenSpec.ofChange commitStepsWrong)

/-- 'bodegalaw12.CommitStrict': WHATEVER THE INPUT: true; the input reads as it did. -/
def commitStrictSpec : ChangeSpec := { name := "commitStrict", fn := fun _ => fun
  | [d1, d2, d3, d4, d5] => { results := [.lit (.bool true)], args := [d1, d2, d3, d4, d5] }
  | _ => none }
def commitStrictRow : OpenClaim := { program := "ytegepanmkjemjaagreat", sum := "d7df7c1253a6b3fc1b68d562132ea99258cebe2402f2a0cda1c352dccff33d76", func := "bodega/bodegalaw12.CommitStrict", spec := "commitStrict", unfollowed := true, recurses := true, apart := false }
def CommitStrictSaid : Prop := commitStrictRow.holds Tryz.pinned (OpenSpec.ofChange commitStrictSpec)

/-- ITS FALSE NEIGHBOUR: 'it returns false'. Refute it at one input. -/
def commitStrictWrong : ChangeSpec := { name := "commitStrict", fn := fun _ => fun
  | [d1, d2, d3, d4, d5] => { results := [.lit (.bool false)], args := [d1, d2, d3, d4, d5] }
  | _ => none }
def CommitStrictWrongFalsely : Prop := commitStrictRow.holds Tryz.pinned (OpenSpec.ofChange commitStrictWrong)

/-- 'bodegalaw12.CommitConflicts': WHATEVER THE INPUT: true; the input reads as it did. -/
def commitConflictsSpec : ChangeSpec := { name := "commitConflicts", fn := fun _ => fun
  | [d1, d2, d3, d4] => { results := [.lit (.bool true)], args := [d1, d2, d3, d4] }
  | _ => none }
def commitConflictsRow : OpenClaim := { program := "ytegepanmkjemjaagreat", sum := "d7df7c1253a6b3fc1b68d562132ea99258cebe2402f2a0cda1c352dccff33d76", func := "bodega/bodegalaw12.CommitConflicts", spec := "commitConflicts", unfollowed := true, recurses := true, apart := false }
def CommitConflictsSaid : Prop := commitConflictsRow.holds Tryz.pinned (OpenSpec.ofChange commitConflictsSpec)

/-- ITS FALSE NEIGHBOUR: 'it returns false'. Refute it at one input. -/
def commitConflictsWrong : ChangeSpec := { name := "commitConflicts", fn := fun _ => fun
  | [d1, d2, d3, d4] => { results := [.lit (.bool false)], args := [d1, d2, d3, d4] }
  | _ => none }
def CommitConflictsWrongFalsely : Prop := commitConflictsRow.holds Tryz.pinned (OpenSpec.ofChange commitConflictsWrong)

/- THE SECOND FORM. 'bulk': how many values and letters a reading holds, each counted each time it is reached (what is shared counts as often as it is met; a slice's spare places count too). A statement '..UptoSaid' is the law's where the arguments, and the package variables that the reading takes, are together of bulk at most 1048576: NARROWER than '..Said'. Prove '..Said' where nothing that the law and all that it calls make is longer than what came in: it says more and counts as full. Else prove '..UptoSaid'. A law counts once. -/
mutual
def uptoBulk {H : Type} : DataW H → Nat
  | .lit (.string bytes) => bytes.length + 1
  | .lit _ => 1
  | .nil => 1
  | .ptr d => uptoBulk d + 1
  | .slice elems spare => uptoBulkAll elems + uptoBulkAll spare + 1
  | .agg parts => uptoBulkAll parts + 1
  | .iface _ d => uptoBulk d + 1
  | .map entries => uptoBulkEntries entries + 1
  | .held _ => 1
def uptoBulkAll {H : Type} : List (DataW H) → Nat
  | [] => 0
  | d :: r => uptoBulk d + uptoBulkAll r
def uptoBulkEntries {H : Type} : List (Lit × DataW H) → Nat
  | [] => 0
  | x :: r => uptoBulkEntry x + uptoBulkEntries r
def uptoBulkEntry {H : Type} : Lit × DataW H → Nat
  | (.string bytes, d) => bytes.length + uptoBulk d + 1
  | (_, d) => uptoBulk d + 1
 end
def uptoSmall : (H : Type) → List (DataW H) → Bool := fun _ ds => decide (uptoBulkAll ds ≤ 1048576)
def OpenSpec.upto (s : _root_.Go.ChangeSpec) : _root_.Go.OpenSpec := { _root_.Go.OpenSpec.ofChange s with cond := some uptoSmall }

/-- 'bodegalaw12.CommitAlone', WHERE WHAT IT READS IS OF BULK AT MOST 1048576: true; the input reads as it did. -/
def commitAloneUptoRow : OpenClaim := { program := "ytegepanmkjemjaagreat", sum := "d7df7c1253a6b3fc1b68d562132ea99258cebe2402f2a0cda1c352dccff33d76", func := "bodega/bodegalaw12.CommitAlone", spec := "commitAlone", unfollowed := true, recurses := true, apart := false, narrowed := true }
def CommitAloneUptoSaid : Prop := commitAloneUptoRow.holds Tryz.pinned (OpenSpec.upto commitAloneSpec)

/-- 'bodegalaw12.CommitRivals', WHERE WHAT IT READS IS OF BULK AT MOST 1048576: true; the input reads as it did. -/
def commitRivalsUptoRow : OpenClaim := { program := "ytegepanmkjemjaagreat", sum := "d7df7c1253a6b3fc1b68d562132ea99258cebe2402f2a0cda1c352dccff33d76", func := "bodega/bodegalaw12.CommitRivals", spec := "commitRivals", unfollowed := true, recurses := true, apart := false, narrowed := true }
def CommitRivalsUptoSaid : Prop := commitRivalsUptoRow.holds Tryz.pinned (OpenSpec.upto commitRivalsSpec)

/-- 'bodegalaw12.CommitCounts', WHERE WHAT IT READS IS OF BULK AT MOST 1048576: true; the input reads as it did. -/
def commitCountsUptoRow : OpenClaim := { program := "ytegepanmkjemjaagreat", sum := "d7df7c1253a6b3fc1b68d562132ea99258cebe2402f2a0cda1c352dccff33d76", func := "bodega/bodegalaw12.CommitCounts", spec := "commitCounts", unfollowed := true, recurses := true, apart := false, narrowed := true }
def CommitCountsUptoSaid : Prop := commitCountsUptoRow.holds Tryz.pinned (OpenSpec.upto commitCountsSpec)

/-- 'bodegalaw12.CommitReads', WHERE WHAT IT READS IS OF BULK AT MOST 1048576: true; the input reads as it did. -/
def commitReadsUptoRow : OpenClaim := { program := "ytegepanmkjemjaagreat", sum := "d7df7c1253a6b3fc1b68d562132ea99258cebe2402f2a0cda1c352dccff33d76", func := "bodega/bodegalaw12.CommitReads", spec := "commitReads", unfollowed := true, recurses := true, apart := false, narrowed := true }
def CommitReadsUptoSaid : Prop := commitReadsUptoRow.holds Tryz.pinned (OpenSpec.upto commitReadsSpec)

/-- 'bodegalaw12.CommitFates', WHERE WHAT IT READS IS OF BULK AT MOST 1048576: true; the input reads as it did. -/
def commitFatesUptoRow : OpenClaim := { program := "ytegepanmkjemjaagreat", sum := "d7df7c1253a6b3fc1b68d562132ea99258cebe2402f2a0cda1c352dccff33d76", func := "bodega/bodegalaw12.CommitFates", spec := "commitFates", unfollowed := true, recurses := true, apart := false, narrowed := true }
def CommitFatesUptoSaid : Prop := commitFatesUptoRow.holds Tryz.pinned (OpenSpec.upto commitFatesSpec)

/-- 'bodegalaw12.CommitSteps', WHERE WHAT IT READS IS OF BULK AT MOST 1048576: true; the input reads as it did. -/
def commitStepsUptoRow : OpenClaim := { program := "ytegepanmkjemjaagreat", sum := "d7df7c1253a6b3fc1b68d562132ea99258cebe2402f2a0cda1c352dccff33d76", func := "bodega/bodegalaw12.CommitSteps", spec := "commitSteps", unfollowed := true, recurses := true, apart := false, narrowed := true }
def CommitStepsUptoSaid : Prop := commitStepsUptoRow.holds Tryz.pinned (OpenSpec.upto commitStepsSpec)

/-- 'bodegalaw12.CommitStrict', WHERE WHAT IT READS IS OF BULK AT MOST 1048576: true; the input reads as it did. -/
def commitStrictUptoRow : OpenClaim := { program := "ytegepanmkjemjaagreat", sum := "d7df7c1253a6b3fc1b68d562132ea99258cebe2402f2a0cda1c352dccff33d76", func := "bodega/bodegalaw12.CommitStrict", spec := "commitStrict", unfollowed := true, recurses := true, apart := false, narrowed := true }
def CommitStrictUptoSaid : Prop := commitStrictUptoRow.holds Tryz.pinned (OpenSpec.upto commitStrictSpec)

/-- 'bodegalaw12.CommitConflicts', WHERE WHAT IT READS IS OF BULK AT MOST 1048576: true; the input reads as it did. -/
def commitConflictsUptoRow : OpenClaim := { program := "ytegepanmkjemjaagreat", sum := "d7df7c1253a6b3fc1b68d562132ea99258cebe2402f2a0cda1c352dccff33d76", func := "bodega/bodegalaw12.CommitConflicts", spec := "commitConflicts", unfollowed := true, recurses := true, apart := false, narrowed := true }
def CommitConflictsUptoSaid : Prop := commitConflictsUptoRow.holds Tryz.pinned (OpenSpec.upto commitConflictsSpec)

end Rows
end Go.Proofs.YtegepanmkjemjaaGreat
