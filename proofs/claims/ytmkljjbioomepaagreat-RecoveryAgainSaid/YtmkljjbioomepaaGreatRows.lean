/-
  No cell of these rows narrows 'for every input' (looked for: loops, veiled, ifaces, maps, wideKeys, modest, calm, conditions, laid).
  DERIVED. THE GIVEN ROWS OF THIS SEAT. 9 by the template 'for every input the law returns true; each argument reads behind the call as it read before'; 0 by the template 'total and deterministic' (their statements: YtmkljjbioomepaaGreatTotals.lean).
  GIVEN WITH THE SEED: the statements are not yours to turn. If you find one false, say at which input.
  Laid BY PROGRAM, IN A SANDBOX (cutbox-rows.mjs): the forced cells as the released guide's own fill.sh prints them over the translation e65ddd8811871fc3… (all of the seat's roots in one cut). By AI agents, Wed Nov 11 2026. No macro, syntax, notation, axiom, sorry.
-/
import Derived.Test.YtmkljjbioomepaaGreatChecked
import GoSem.Claim
import GoSem.ClaimJoined
import GoSem.ClaimMapViews
import Derived.JoinedTies
import Derived.KernelRfl
namespace Go.Proofs.YtmkljjbioomepaaGreat
/- THE CELL 'sum', in the pinned program and in every row, IS THE sha256 OF THE DUMP (.gsa) THAT YtmkljjbioomepaaGreatProg.lean LOADS. Nothing in Lean hashes anything: it is a label: what it is worth is what the hold of that sum in a sandbox is worth. -/
noncomputable def Tryz.pinned : Pinned := { name := "ytmkljjbioomepaagreat", sum := "e65ddd8811871fc359ee5709bff3a271157ce5a451c22b4d1acc6de1181731db", checked := Tryz.checked }
namespace Rows
def none {H : Type} : Left H := { results := [], args := [] }

/-- 'bodegalaw13.RecoveryCuts': WHATEVER THE INPUT: true; the input reads as it did. -/
def recoveryCutsSpec : ChangeSpec := { name := "recoveryCuts", fn := fun _ => fun
  | [d1, d2, d3, d4, d5] => { results := [.lit (.bool true)], args := [d1, d2, d3, d4, d5] }
  | _ => none }
def recoveryCutsRow : OpenClaim := { program := "ytmkljjbioomepaagreat", sum := "e65ddd8811871fc359ee5709bff3a271157ce5a451c22b4d1acc6de1181731db", func := "bodega/bodegalaw13.RecoveryCuts", spec := "recoveryCuts", unfollowed := true, recurses := true, apart := false }
def RecoveryCutsSaid : Prop := recoveryCutsRow.holds Tryz.pinned (OpenSpec.ofChange recoveryCutsSpec)

/-- ITS FALSE NEIGHBOUR: 'it returns false'. Refute it at one input. -/
def recoveryCutsWrong : ChangeSpec := { name := "recoveryCuts", fn := fun _ => fun
  | [d1, d2, d3, d4, d5] => { results := [.lit (.bool false)], args := [d1, d2, d3, d4, d5] }
  | _ => none }
def RecoveryCutsWrongFalsely : Prop := recoveryCutsRow.holds Tryz.pinned (OpenSpec.ofChange recoveryCutsWrong)

/-- 'bodegalaw13.RecoveryChain': WHATEVER THE INPUT: true; the input reads as it did. -/
def recoveryChainSpec : ChangeSpec := { name := "recoveryChain", fn := fun _ => fun
  | [d1, d2, d3, d4, d5, d6] => { results := [.lit (.bool true)], args := [d1, d2, d3, d4, d5, d6] }
  | _ => none }
def recoveryChainRow : OpenClaim := { program := "ytmkljjbioomepaagreat", sum := "e65ddd8811871fc359ee5709bff3a271157ce5a451c22b4d1acc6de1181731db", func := "bodega/bodegalaw13.RecoveryChain", spec := "recoveryChain", unfollowed := true, recurses := true, apart := false }
def RecoveryChainSaid : Prop := recoveryChainRow.holds Tryz.pinned (OpenSpec.ofChange recoveryChainSpec)

/-- ITS FALSE NEIGHBOUR: 'it returns false'. Refute it at one input. -/
def recoveryChainWrong : ChangeSpec := { name := "recoveryChain", fn := fun _ => fun
  | [d1, d2, d3, d4, d5, d6] => { results := [.lit (.bool false)], args := [d1, d2, d3, d4, d5, d6] }
  | _ => none }
def RecoveryChainWrongFalsely : Prop := recoveryChainRow.holds Tryz.pinned (OpenSpec.ofChange recoveryChainWrong)

/-- 'bodegalaw13.RecoveryRivals': WHATEVER THE INPUT: true; the input reads as it did. -/
def recoveryRivalsSpec : ChangeSpec := { name := "recoveryRivals", fn := fun _ => fun
  | [d1, d2, d3, d4, d5] => { results := [.lit (.bool true)], args := [d1, d2, d3, d4, d5] }
  | _ => none }
def recoveryRivalsRow : OpenClaim := { program := "ytmkljjbioomepaagreat", sum := "e65ddd8811871fc359ee5709bff3a271157ce5a451c22b4d1acc6de1181731db", func := "bodega/bodegalaw13.RecoveryRivals", spec := "recoveryRivals", unfollowed := true, recurses := true, apart := false }
def RecoveryRivalsSaid : Prop := recoveryRivalsRow.holds Tryz.pinned (OpenSpec.ofChange recoveryRivalsSpec)

/-- ITS FALSE NEIGHBOUR: 'it returns false'. Refute it at one input. -/
def recoveryRivalsWrong : ChangeSpec := { name := "recoveryRivals", fn := fun _ => fun
  | [d1, d2, d3, d4, d5] => { results := [.lit (.bool false)], args := [d1, d2, d3, d4, d5] }
  | _ => none }
def RecoveryRivalsWrongFalsely : Prop := recoveryRivalsRow.holds Tryz.pinned (OpenSpec.ofChange recoveryRivalsWrong)

/-- 'bodegalaw13.RecoveryFences': WHATEVER THE INPUT: true; the input reads as it did. -/
def recoveryFencesSpec : ChangeSpec := { name := "recoveryFences", fn := fun _ => fun
  | [d1, d2, d3, d4] => { results := [.lit (.bool true)], args := [d1, d2, d3, d4] }
  | _ => none }
def recoveryFencesRow : OpenClaim := { program := "ytmkljjbioomepaagreat", sum := "e65ddd8811871fc359ee5709bff3a271157ce5a451c22b4d1acc6de1181731db", func := "bodega/bodegalaw13.RecoveryFences", spec := "recoveryFences", unfollowed := true, recurses := true, apart := false }
def RecoveryFencesSaid : Prop := recoveryFencesRow.holds Tryz.pinned (OpenSpec.ofChange recoveryFencesSpec)

/-- ITS FALSE NEIGHBOUR: 'it returns false'. Refute it at one input. -/
def recoveryFencesWrong : ChangeSpec := { name := "recoveryFences", fn := fun _ => fun
  | [d1, d2, d3, d4] => { results := [.lit (.bool false)], args := [d1, d2, d3, d4] }
  | _ => none }
def RecoveryFencesWrongFalsely : Prop := recoveryFencesRow.holds Tryz.pinned (OpenSpec.ofChange recoveryFencesWrong)

/-- 'bodegalaw13.RecoverySteps': WHATEVER THE INPUT: true; the input reads as it did. -/
def recoveryStepsSpec : ChangeSpec := { name := "recoverySteps", fn := fun _ => fun
  | [d1, d2, d3, d4, d5] => { results := [.lit (.bool true)], args := [d1, d2, d3, d4, d5] }
  | _ => none }
def recoveryStepsRow : OpenClaim := { program := "ytmkljjbioomepaagreat", sum := "e65ddd8811871fc359ee5709bff3a271157ce5a451c22b4d1acc6de1181731db", func := "bodega/bodegalaw13.RecoverySteps", spec := "recoverySteps", unfollowed := true, recurses := true, apart := false }
def RecoveryStepsSaid : Prop := recoveryStepsRow.holds Tryz.pinned (OpenSpec.ofChange recoveryStepsSpec)

/-- ITS FALSE NEIGHBOUR: 'it returns false'. Refute it at one input. -/
def recoveryStepsWrong : ChangeSpec := { name := "recoverySteps", fn := fun _ => fun
  | [d1, d2, d3, d4, d5] => { results := [.lit (.bool false)], args := [d1, d2, d3, d4, d5] }
  | _ => none }
def RecoveryStepsWrongFalsely : Prop := recoveryStepsRow.holds Tryz.pinned (OpenSpec.ofChange recoveryStepsWrong)

/-- 'bodegalaw13.RecoverySeqs': WHATEVER THE INPUT: true; the input reads as it did. -/
def recoverySeqsSpec : ChangeSpec := { name := "recoverySeqs", fn := fun _ => fun
  | [d1, d2, d3, d4] => { results := [.lit (.bool true)], args := [d1, d2, d3, d4] }
  | _ => none }
def recoverySeqsRow : OpenClaim := { program := "ytmkljjbioomepaagreat", sum := "e65ddd8811871fc359ee5709bff3a271157ce5a451c22b4d1acc6de1181731db", func := "bodega/bodegalaw13.RecoverySeqs", spec := "recoverySeqs", unfollowed := true, recurses := true, apart := false }
def RecoverySeqsSaid : Prop := recoverySeqsRow.holds Tryz.pinned (OpenSpec.ofChange recoverySeqsSpec)

/-- ITS FALSE NEIGHBOUR: 'it returns false'. Refute it at one input. -/
def recoverySeqsWrong : ChangeSpec := { name := "recoverySeqs", fn := fun _ => fun
  | [d1, d2, d3, d4] => { results := [.lit (.bool false)], args := [d1, d2, d3, d4] }
  | _ => none }
def RecoverySeqsWrongFalsely : Prop := recoverySeqsRow.holds Tryz.pinned (OpenSpec.ofChange recoverySeqsWrong)

/-- 'bodegalaw13.RecoveryUnlocks': WHATEVER THE INPUT: true; the input reads as it did. -/
def recoveryUnlocksSpec : ChangeSpec := { name := "recoveryUnlocks", fn := fun _ => fun
  | [d1, d2, d3, d4] => { results := [.lit (.bool true)], args := [d1, d2, d3, d4] }
  | _ => none }
def recoveryUnlocksRow : OpenClaim := { program := "ytmkljjbioomepaagreat", sum := "e65ddd8811871fc359ee5709bff3a271157ce5a451c22b4d1acc6de1181731db", func := "bodega/bodegalaw13.RecoveryUnlocks", spec := "recoveryUnlocks", unfollowed := true, recurses := true, apart := false }
def RecoveryUnlocksSaid : Prop := recoveryUnlocksRow.holds Tryz.pinned (OpenSpec.ofChange recoveryUnlocksSpec)

/-- ITS FALSE NEIGHBOUR: 'it returns false'. Refute it at one input. -/
def recoveryUnlocksWrong : ChangeSpec := { name := "recoveryUnlocks", fn := fun _ => fun
  | [d1, d2, d3, d4] => { results := [.lit (.bool false)], args := [d1, d2, d3, d4] }
  | _ => none }
def RecoveryUnlocksWrongFalsely : Prop := recoveryUnlocksRow.holds Tryz.pinned (OpenSpec.ofChange recoveryUnlocksWrong)

/-- 'bodegalaw13.RecoverySelf': WHATEVER THE INPUT: true; the input reads as it did. -/
def recoverySelfSpec : ChangeSpec := { name := "recoverySelf", fn := fun _ => fun
  | [d1, d2, d3, d4, d5, d6] => { results := [.lit (.bool true)], args := [d1, d2, d3, d4, d5, d6] }
  | _ => none }
def recoverySelfRow : OpenClaim := { program := "ytmkljjbioomepaagreat", sum := "e65ddd8811871fc359ee5709bff3a271157ce5a451c22b4d1acc6de1181731db", func := "bodega/bodegalaw13.RecoverySelf", spec := "recoverySelf", unfollowed := true, recurses := true, apart := false }
def RecoverySelfSaid : Prop := recoverySelfRow.holds Tryz.pinned (OpenSpec.ofChange recoverySelfSpec)

/-- ITS FALSE NEIGHBOUR: 'it returns false'. Refute it at one input. -/
def recoverySelfWrong : ChangeSpec := { name := "recoverySelf", fn := fun _ => fun
  | [d1, d2, d3, d4, d5, d6] => { results := [.lit (.bool false)], args := [d1, d2, d3, d4, d5, d6] }
  | _ => none }
def RecoverySelfWrongFalsely : Prop := recoverySelfRow.holds Tryz.pinned (OpenSpec.ofChange recoverySelfWrong)

/-- 'bodegalaw13.RecoveryAgain': WHATEVER THE INPUT: true; the input reads as it did. -/
def recoveryAgainSpec : ChangeSpec := { name := "recoveryAgain", fn := fun _ => fun
  | [d1, d2, d3, d4, d5] => { results := [.lit (.bool true)], args := [d1, d2, d3, d4, d5] }
  | _ => none }
def recoveryAgainRow : OpenClaim := { program := "ytmkljjbioomepaagreat", sum := "e65ddd8811871fc359ee5709bff3a271157ce5a451c22b4d1acc6de1181731db", func := "bodega/bodegalaw13.RecoveryAgain", spec := "recoveryAgain", unfollowed := true, recurses := true, apart := false }
def RecoveryAgainSaid : Prop := recoveryAgainRow.holds Tryz.pinned (OpenSpec.ofChange recoveryAgainSpec)

/-- ITS FALSE NEIGHBOUR: 'it returns false'. Refute it at one input. -/
def recoveryAgainWrong : ChangeSpec := { name := "recoveryAgain", fn := fun _ => fun
  | [d1, d2, d3, d4, d5] => { results := [.lit (.bool false)], args := [d1, d2, d3, d4, d5] }
  | _ => none }
def RecoveryAgainWrongFalsely : Prop := recoveryAgainRow.holds Tryz.pinned (OpenSpec.ofChange recoveryAgainWrong)

/- THE SECOND FORM. 'bulk': how many values and letters a reading holds, each counted each time it is reached (what is shared counts as often as it is met; a slice's spare places count too). A statement '..UptoSaid' is the law's where the arguments, and the package variables that the reading takes, are together of bulk at most 1048576: NARROWER than '..Said'. Prove '..Said' where nothing that the law and all that it calls make is longer than what came in: it says more and counts as full. Else prove '..UptoSaid'. A law counts once. -/
mutual
def uptoBulk {H : Type} : DataW H → Nat
  | .lit (.string bytes) => bytes.length + 1
  | .lit _ => 1
  | .nil => 1
  | .ptr d => uptoBulk d + 1
  | .slice elems spare => uptoBulkAll elems + uptoBulkAll spare + 1
  | .agg parts => uptoBulkAll parts + 1
  | .iface _ d => uptoBulk d + 1
  | .map entries => uptoBulkEntries entries + 1
  | .held _ => 1
def uptoBulkAll {H : Type} : List (DataW H) → Nat
  | [] => 0
  | d :: r => uptoBulk d + uptoBulkAll r
def uptoBulkEntries {H : Type} : List (Lit × DataW H) → Nat
  | [] => 0
  | x :: r => uptoBulkEntry x + uptoBulkEntries r
def uptoBulkEntry {H : Type} : Lit × DataW H → Nat
  | (.string bytes, d) => bytes.length + uptoBulk d + 1
  | (_, d) => uptoBulk d + 1
 end
def uptoSmall : (H : Type) → List (DataW H) → Bool := fun _ ds => decide (uptoBulkAll ds ≤ 1048576)
def OpenSpec.upto (s : _root_.Go.ChangeSpec) : _root_.Go.OpenSpec := { _root_.Go.OpenSpec.ofChange s with cond := some uptoSmall }

/-- 'bodegalaw13.RecoveryCuts', WHERE WHAT IT READS IS OF BULK AT MOST 1048576: true; the input reads as it did. -/
def recoveryCutsUptoRow : OpenClaim := { program := "ytmkljjbioomepaagreat", sum := "e65ddd8811871fc359ee5709bff3a271157ce5a451c22b4d1acc6de1181731db", func := "bodega/bodegalaw13.RecoveryCuts", spec := "recoveryCuts", unfollowed := true, recurses := true, apart := false, narrowed := true }
def RecoveryCutsUptoSaid : Prop := recoveryCutsUptoRow.holds Tryz.pinned (OpenSpec.upto recoveryCutsSpec)

/-- 'bodegalaw13.RecoveryChain', WHERE WHAT IT READS IS OF BULK AT MOST 1048576: true; the input reads as it did. -/
def recoveryChainUptoRow : OpenClaim := { program := "ytmkljjbioomepaagreat", sum := "e65ddd8811871fc359ee5709bff3a271157ce5a451c22b4d1acc6de1181731db", func := "bodega/bodegalaw13.RecoveryChain", spec := "recoveryChain", unfollowed := true, recurses := true, apart := false, narrowed := true }
def RecoveryChainUptoSaid : Prop := recoveryChainUptoRow.holds Tryz.pinned (OpenSpec.upto recoveryChainSpec)

/-- 'bodegalaw13.RecoveryRivals', WHERE WHAT IT READS IS OF BULK AT MOST 1048576: true; the input reads as it did. -/
def recoveryRivalsUptoRow : OpenClaim := { program := "ytmkljjbioomepaagreat", sum := "e65ddd8811871fc359ee5709bff3a271157ce5a451c22b4d1acc6de1181731db", func := "bodega/bodegalaw13.RecoveryRivals", spec := "recoveryRivals", unfollowed := true, recurses := true, apart := false, narrowed := true }
def RecoveryRivalsUptoSaid : Prop := recoveryRivalsUptoRow.holds Tryz.pinned (OpenSpec.upto recoveryRivalsSpec)

/-- 'bodegalaw13.RecoveryFences', WHERE WHAT IT READS IS OF BULK AT MOST 1048576: true; the input reads as it did. -/
def recoveryFencesUptoRow : OpenClaim := { program := "ytmkljjbioomepaagreat", sum := "e65ddd8811871fc359ee5709bff3a271157ce5a451c22b4d1acc6de1181731db", func := "bodega/bodegalaw13.RecoveryFences", spec := "recoveryFences", unfollowed := true, recurses := true, apart := false, narrowed := true }
def RecoveryFencesUptoSaid : Prop := recoveryFencesUptoRow.holds Tryz.pinned (OpenSpec.upto recoveryFencesSpec)

/-- 'bodegalaw13.RecoverySteps', WHERE WHAT IT READS IS OF BULK AT MOST 1048576: true; the input reads as it did. -/
def recoveryStepsUptoRow : OpenClaim := { program := "ytmkljjbioomepaagreat", sum := "e65ddd8811871fc359ee5709bff3a271157ce5a451c22b4d1acc6de1181731db", func := "bodega/bodegalaw13.RecoverySteps", spec := "recoverySteps", unfollowed := true, recurses := true, apart := false, narrowed := true }
def RecoveryStepsUptoSaid : Prop := recoveryStepsUptoRow.holds Tryz.pinned (OpenSpec.upto recoveryStepsSpec)

/-- 'bodegalaw13.RecoverySeqs', WHERE WHAT IT READS IS OF BULK AT MOST 1048576: true; the input reads as it did. -/
def recoverySeqsUptoRow : OpenClaim := { program := "ytmkljjbioomepaagreat", sum := "e65ddd8811871fc359ee5709bff3a271157ce5a451c22b4d1acc6de1181731db", func := "bodega/bodegalaw13.RecoverySeqs", spec := "recoverySeqs", unfollowed := true, recurses := true, apart := false, narrowed := true }
def RecoverySeqsUptoSaid : Prop := recoverySeqsUptoRow.holds Tryz.pinned (OpenSpec.upto recoverySeqsSpec)

/-- 'bodegalaw13.RecoveryUnlocks', WHERE WHAT IT READS IS OF BULK AT MOST 1048576: true; the input reads as it did. -/
def recoveryUnlocksUptoRow : OpenClaim := { program := "ytmkljjbioomepaagreat", sum := "e65ddd8811871fc359ee5709bff3a271157ce5a451c22b4d1acc6de1181731db", func := "bodega/bodegalaw13.RecoveryUnlocks", spec := "recoveryUnlocks", unfollowed := true, recurses := true, apart := false, narrowed := true }
def RecoveryUnlocksUptoSaid : Prop := recoveryUnlocksUptoRow.holds Tryz.pinned (OpenSpec.upto recoveryUnlocksSpec)

/-- 'bodegalaw13.RecoverySelf', WHERE WHAT IT READS IS OF BULK AT MOST 1048576: true; the input reads as it did. -/
def recoverySelfUptoRow : OpenClaim := { program := "ytmkljjbioomepaagreat", sum := "e65ddd8811871fc359ee5709bff3a271157ce5a451c22b4d1acc6de1181731db", func := "bodega/bodegalaw13.RecoverySelf", spec := "recoverySelf", unfollowed := true, recurses := true, apart := false, narrowed := true }
def RecoverySelfUptoSaid : Prop := recoverySelfUptoRow.holds Tryz.pinned (OpenSpec.upto recoverySelfSpec)

/-- 'bodegalaw13.RecoveryAgain', WHERE WHAT IT READS IS OF BULK AT MOST 1048576: true; the input reads as it did. -/
def recoveryAgainUptoRow : OpenClaim := { program := "ytmkljjbioomepaagreat", sum := "e65ddd8811871fc359ee5709bff3a271157ce5a451c22b4d1acc6de1181731db", func := "bodega/bodegalaw13.RecoveryAgain", spec := "recoveryAgain", unfollowed := true, recurses := true, apart := false, narrowed := true }
def RecoveryAgainUptoSaid : Prop := recoveryAgainUptoRow.holds Tryz.pinned (OpenSpec.upto recoveryAgainSpec)

end Rows
end Go.Proofs.YtmkljjbioomepaaGreat
