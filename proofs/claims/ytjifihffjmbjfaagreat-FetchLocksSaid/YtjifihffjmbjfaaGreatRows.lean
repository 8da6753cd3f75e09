/-
  No cell of these rows narrows 'for every input' (looked for: loops, veiled, ifaces, maps, wideKeys, modest, calm, conditions, laid).
  DERIVED. THE GIVEN ROWS OF THIS SEAT. 6 by the template 'for every input the law returns true; each argument reads behind the call as it read before'; 0 by the template 'total and deterministic' (their statements: YtjifihffjmbjfaaGreatTotals.lean).
  GIVEN WITH THE SEED: the statements are not yours to turn. If you find one false, say at which input.
  Laid BY PROGRAM, IN A SANDBOX (cutbox-rows.mjs): the forced cells as the released guide's own fill.sh prints them over the translation 698fb9b9dc6a0505… (all of the seat's roots in one cut). By AI agents, Wed Nov 11 2026. No macro, syntax, notation, axiom, sorry.
-/
import Derived.Test.YtjifihffjmbjfaaGreatChecked
import GoSem.Claim
import GoSem.ClaimJoined
import GoSem.ClaimMapViews
import Derived.JoinedTies
import Derived.KernelRfl
namespace Go.Proofs.YtjifihffjmbjfaaGreat
/- THE CELL 'sum', in the pinned program and in every row, IS THE sha256 OF THE DUMP (.gsa) THAT YtjifihffjmbjfaaGreatProg.lean LOADS. Nothing in Lean hashes anything: it is a label: what it is worth is what the hold of that sum in a sandbox is worth. -/
noncomputable def Tryz.pinned : Pinned := { name := "ytjifihffjmbjfaagreat", sum := "698fb9b9dc6a0505a28bc19c30dbf901c7780a9142403d80414e06dc7b0aad0a", checked := Tryz.checked }
namespace Rows
def none {H : Type} : Left H := { results := [], args := [] }

/-- 'bodegalaw11.DiscoverExact': WHATEVER THE INPUT: true; the input reads as it did. -/
def discoverExactSpec : ChangeSpec := { name := "discoverExact", fn := fun _ => fun
  | [d1, d2, d3, d4, d5] => { results := [.lit (.bool true)], args := [d1, d2, d3, d4, d5] }
  | _ => none }
def discoverExactRow : OpenClaim := { program := "ytjifihffjmbjfaagreat", sum := "698fb9b9dc6a0505a28bc19c30dbf901c7780a9142403d80414e06dc7b0aad0a", func := "bodega/bodegalaw11.DiscoverExact", spec := "discoverExact", unfollowed := true, recurses := true, apart := false }
def DiscoverExactSaid : Prop := discoverExactRow.holds Tryz.pinned (OpenSpec.ofChange discoverExactSpec)

/-- ITS FALSE NEIGHBOUR: 'it returns false'. Refute it at one input. -/
def discoverExactWrong : ChangeSpec := { name := "discoverExact", fn := fun _ => fun
  | [d1, d2, d3, d4, d5] => { results := [.lit (.bool false)], args := [d1, d2, d3, d4, d5] }
  | _ => none }
def DiscoverExactWrongFalsely : Prop := discoverExactRow.holds Tryz.pinned (OpenSpec.ofChange discoverExactWrong)

/-- 'bodegalaw11.DiscoverJudges': WHATEVER THE INPUT: true; the input reads as it did. -/
def discoverJudgesSpec : ChangeSpec := { name := "discoverJudges", fn := fun _ => fun
  | [d1, d2, d3, d4] => { results := [.lit (.bool true)], args := [d1, d2, d3, d4] }
  | _ => none }
def discoverJudgesRow : OpenClaim := { program := "ytjifihffjmbjfaagreat", sum := "698fb9b9dc6a0505a28bc19c30dbf901c7780a9142403d80414e06dc7b0aad0a", func := "bodega/bodegalaw11.DiscoverJudges", spec := "discoverJudges", unfollowed := true, recurses := true, apart := false }
def DiscoverJudgesSaid : Prop := discoverJudgesRow.holds Tryz.pinned (OpenSpec.ofChange discoverJudgesSpec)

/-- ITS FALSE NEIGHBOUR: 'it returns false'. Refute it at one input. -/
def discoverJudgesWrong : ChangeSpec := { name := "discoverJudges", fn := fun _ => fun
  | [d1, d2, d3, d4] => { results := [.lit (.bool false)], args := [d1, d2, d3, d4] }
  | _ => none }
def DiscoverJudgesWrongFalsely : Prop := discoverJudgesRow.holds Tryz.pinned (OpenSpec.ofChange discoverJudgesWrong)

/-- 'bodegalaw12.CommitValid': WHATEVER THE INPUT: true; the input reads as it did. -/
def commitValidSpec : ChangeSpec := { name := "commitValid", fn := fun _ => fun
  | [d1, d2] => { results := [.lit (.bool true)], args := [d1, d2] }
  | _ => none }
def commitValidRow : OpenClaim := { program := "ytjifihffjmbjfaagreat", sum := "698fb9b9dc6a0505a28bc19c30dbf901c7780a9142403d80414e06dc7b0aad0a", func := "bodega/bodegalaw12.CommitValid", spec := "commitValid", unfollowed := true, recurses := true, apart := false }
def CommitValidSaid : Prop := commitValidRow.holds Tryz.pinned (OpenSpec.ofChange commitValidSpec)

/-- ITS FALSE NEIGHBOUR: 'it returns false'. Refute it at one input. -/
def commitValidWrong : ChangeSpec := { name := "commitValid", fn := fun _ => fun
  | [d1, d2] => { results := [.lit (.bool false)], args := [d1, d2] }
  | _ => none }
def CommitValidWrongFalsely : Prop := commitValidRow.holds Tryz.pinned (OpenSpec.ofChange commitValidWrong)

/-- 'bodegalaw12.CommitExact': WHATEVER THE INPUT: true; the input reads as it did. -/
def commitExactSpec : ChangeSpec := { name := "commitExact", fn := fun _ => fun
  | [d1, d2, d3, d4, d5] => { results := [.lit (.bool true)], args := [d1, d2, d3, d4, d5] }
  | _ => none }
def commitExactRow : OpenClaim := { program := "ytjifihffjmbjfaagreat", sum := "698fb9b9dc6a0505a28bc19c30dbf901c7780a9142403d80414e06dc7b0aad0a", func := "bodega/bodegalaw12.CommitExact", spec := "commitExact", unfollowed := true, recurses := true, apart := false }
def CommitExactSaid : Prop := commitExactRow.holds Tryz.pinned (OpenSpec.ofChange commitExactSpec)

/-- ITS FALSE NEIGHBOUR: 'it returns false'. Refute it at one input. -/
def commitExactWrong : ChangeSpec := { name := "commitExact", fn := fun _ => fun
  | [d1, d2, d3, d4, d5] => { results := [.lit (.bool false)], args := [d1, d2, d3, d4, d5] }
  | _ => none }
def CommitExactWrongFalsely : Prop := commitExactRow.holds Tryz.pinned (OpenSpec.ofChange commitExactWrong)

/-- 'bodegalaw13.RecoveryValid': WHATEVER THE INPUT: true; the input reads as it did. -/
def recoveryValidSpec : ChangeSpec := { name := "recoveryValid", fn := fun _ => fun
  | [d1, d2] => { results := [.lit (.bool true)], args := [d1, d2] }
  | _ => none }
def recoveryValidRow : OpenClaim := { program := "ytjifihffjmbjfaagreat", sum := "698fb9b9dc6a0505a28bc19c30dbf901c7780a9142403d80414e06dc7b0aad0a", func := "bodega/bodegalaw13.RecoveryValid", spec := "recoveryValid", unfollowed := true, recurses := true, apart := false }
def RecoveryValidSaid : Prop := recoveryValidRow.holds Tryz.pinned (OpenSpec.ofChange recoveryValidSpec)

/-- ITS FALSE NEIGHBOUR: 'it returns false'. Refute it at one input. -/
def recoveryValidWrong : ChangeSpec := { name := "recoveryValid", fn := fun _ => fun
  | [d1, d2] => { results := [.lit (.bool false)], args := [d1, d2] }
  | _ => none }
def RecoveryValidWrongFalsely : Prop := recoveryValidRow.holds Tryz.pinned (OpenSpec.ofChange recoveryValidWrong)

/-- 'bodegalaw16.FetchLocks': WHATEVER THE INPUT: true; the input reads as it did. -/
def fetchLocksSpec : ChangeSpec := { name := "fetchLocks", fn := fun _ => fun
  | [d1, d2] => { results := [.lit (.bool true)], args := [d1, d2] }
  | _ => none }
def fetchLocksRow : OpenClaim := { program := "ytjifihffjmbjfaagreat", sum := "698fb9b9dc6a0505a28bc19c30dbf901c7780a9142403d80414e06dc7b0aad0a", func := "bodega/bodegalaw16.FetchLocks", spec := "fetchLocks", unfollowed := true, recurses := true, apart := false }
def FetchLocksSaid : Prop := fetchLocksRow.holds Tryz.pinned (OpenSpec.ofChange fetchLocksSpec)

/-- ITS FALSE NEIGHBOUR: 'it returns false'. Refute it at one input. -/
def fetchLocksWrong : ChangeSpec := { name := "fetchLocks", fn := fun _ => fun
  | [d1, d2] => { results := [.lit (.bool false)], args := [d1, d2] }
  | _ => none }
def FetchLocksWrongFalsely : Prop := fetchLocksRow.holds Tryz.pinned (OpenSpec.ofChange fetchLocksWrong)

/- THE SECOND FORM. 'bulk': how many values and letters a reading holds, each counted each time it is reached (what is shared counts as often as it is met; a slice's spare places count too). A statement '..UptoSaid' is the law's where the arguments, and the package variables that the reading takes, are together of bulk at most 1048576: NARROWER than '..Said'. Prove '..Said' where nothing that the law and all that it calls make is longer than what came in: it says more and counts as full. Else prove '..UptoSaid'. A law counts once. -/
mutual
def uptoBulk {H : Type} : DataW H → Nat
  | .lit (.string bytes) => bytes.length + 1
  | .lit _ => 1
  | .nil => 1
  | .ptr d => uptoBulk d + 1
  | .slice elems spare => uptoBulkAll elems + uptoBulkAll spare + 1
  | .agg parts => uptoBulkAll parts + 1
  | .iface _ d => uptoBulk d + 1
  | .map entries => uptoBulkEntries entries + 1
  | .held _ => 1
def uptoBulkAll {H : Type} : List (DataW H) → Nat
  | [] => 0
  | d :: r => uptoBulk d + uptoBulkAll r
def uptoBulkEntries {H : Type} : List (Lit × DataW H) → Nat
  | [] => 0
  | x :: r => uptoBulkEntry x + uptoBulkEntries r
def uptoBulkEntry {H : Type} : Lit × DataW H → Nat
  | (.string bytes, d) => bytes.length + uptoBulk d + 1
  | (_, d) => uptoBulk d + 1
 end
def uptoSmall : (H : Type) → List (DataW H) → Bool := fun _ ds => decide (uptoBulkAll ds ≤ 1048576)
def OpenSpec.upto (s : _root_.Go.ChangeSpec) : _root_.Go.OpenSpec := { _root_.Go.OpenSpec.ofChange s with cond := some uptoSmall }

/-- 'bodegalaw11.DiscoverExact', WHERE WHAT IT READS IS OF BULK AT MOST 1048576: true; the input reads as it did. -/
def discoverExactUptoRow : OpenClaim := { program := "ytjifihffjmbjfaagreat", sum := "698fb9b9dc6a0505a28bc19c30dbf901c7780a9142403d80414e06dc7b0aad0a", func := "bodega/bodegalaw11.DiscoverExact", spec := "discoverExact", unfollowed := true, recurses := true, apart := false, narrowed := true }
def DiscoverExactUptoSaid : Prop := discoverExactUptoRow.holds Tryz.pinned (OpenSpec.upto discoverExactSpec)

/-- 'bodegalaw11.DiscoverJudges', WHERE WHAT IT READS IS OF BULK AT MOST 1048576: true; the input reads as it did. -/
def discoverJudgesUptoRow : OpenClaim := { program := "ytjifihffjmbjfaagreat", sum := "698fb9b9dc6a0505a28bc19c30dbf901c7780a9142403d80414e06dc7b0aad0a", func := "bodega/bodegalaw11.DiscoverJudges", spec := "discoverJudges", unfollowed := true, recurses := true, apart := false, narrowed := true }
def DiscoverJudgesUptoSaid : Prop := discoverJudgesUptoRow.holds Tryz.pinned (OpenSpec.upto discoverJudgesSpec)

/-- 'bodegalaw12.CommitValid', WHERE WHAT IT READS IS OF BULK AT MOST 1048576: true; the input reads as it did. -/
def commitValidUptoRow : OpenClaim := { program := "ytjifihffjmbjfaagreat", sum := "698fb9b9dc6a0505a28bc19c30dbf901c7780a9142403d80414e06dc7b0aad0a", func := "bodega/bodegalaw12.CommitValid", spec := "commitValid", unfollowed := true, recurses := true, apart := false, narrowed := true }
def CommitValidUptoSaid : Prop := commitValidUptoRow.holds Tryz.pinned (OpenSpec.upto commitValidSpec)

/-- 'bodegalaw12.CommitExact', WHERE WHAT IT READS IS OF BULK AT MOST 1048576: true; the input reads as it did. -/
def commitExactUptoRow : OpenClaim := { program := "ytjifihffjmbjfaagreat", sum := "698fb9b9dc6a0505a28bc19c30dbf901c7780a9142403d80414e06dc7b0aad0a", func := "bodega/bodegalaw12.CommitExact", spec := "commitExact", unfollowed := true, recurses := true, apart := false, narrowed := true }
def CommitExactUptoSaid : Prop := commitExactUptoRow.holds Tryz.pinned (OpenSpec.upto commitExactSpec)

/-- 'bodegalaw13.RecoveryValid', WHERE WHAT IT READS IS OF BULK AT MOST 1048576: true; the input reads as it did. -/
def recoveryValidUptoRow : OpenClaim := { program := "ytjifihffjmbjfaagreat", sum := "698fb9b9dc6a0505a28bc19c30dbf901c7780a9142403d80414e06dc7b0aad0a", func := "bodega/bodegalaw13.RecoveryValid", spec := "recoveryValid", unfollowed := true, recurses := true, apart := false, narrowed := true }
def RecoveryValidUptoSaid : Prop := recoveryValidUptoRow.holds Tryz.pinned (OpenSpec.upto recoveryValidSpec)

/-- 'bodegalaw16.FetchLocks', WHERE WHAT IT READS IS OF BULK AT MOST 1048576: true; the input reads as it did. -/
def fetchLocksUptoRow : OpenClaim := { program := "ytjifihffjmbjfaagreat", sum := "698fb9b9dc6a0505a28bc19c30dbf901c7780a9142403d80414e06dc7b0aad0a", func := "bodega/bodegalaw16.FetchLocks", spec := "fetchLocks", unfollowed := true, recurses := true, apart := false, narrowed := true }
def FetchLocksUptoSaid : Prop := fetchLocksUptoRow.holds Tryz.pinned (OpenSpec.upto fetchLocksSpec)

end Rows
end Go.Proofs.YtjifihffjmbjfaaGreat
