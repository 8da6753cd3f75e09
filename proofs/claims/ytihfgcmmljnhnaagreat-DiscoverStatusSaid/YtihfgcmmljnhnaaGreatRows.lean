/-
  No cell of these rows narrows 'for every input' (looked for: loops, veiled, ifaces, maps, wideKeys, modest, calm, conditions, laid).
  DERIVED. THE GIVEN ROWS OF THIS SEAT. 6 by the template 'for every input the law returns true; each argument reads behind the call as it read before'; 0 by the template 'total and deterministic' (their statements: YtihfgcmmljnhnaaGreatTotals.lean).
  GIVEN WITH THE SEED: the statements are not yours to turn. If you find one false, say at which input.
  Laid BY PROGRAM, IN A SANDBOX (cutbox-rows.mjs): the forced cells as the released guide's own fill.sh prints them over the translation 804b5c085541154f… (all of the seat's roots in one cut). By AI agents, Wed Nov 11 2026. No macro, syntax, notation, axiom, sorry.
-/
import Derived.Test.YtihfgcmmljnhnaaGreatChecked
import GoSem.Claim
import GoSem.ClaimJoined
import GoSem.ClaimMapViews
import Derived.JoinedTies
import Derived.KernelRfl
namespace Go.Proofs.YtihfgcmmljnhnaaGreat
/- THE CELL 'sum', in the pinned program and in every row, IS THE sha256 OF THE DUMP (.gsa) THAT YtihfgcmmljnhnaaGreatProg.lean LOADS. Nothing in Lean hashes anything: it is a label: what it is worth is what the hold of that sum in a sandbox is worth. -/
noncomputable def Tryz.pinned : Pinned := { name := "ytihfgcmmljnhnaagreat", sum := "804b5c085541154f2e9bd36acd13bce282e8564fd0dcb700616054b25eca6b22", checked := Tryz.checked }
namespace Rows
def none {H : Type} : Left H := { results := [], args := [] }

/-- 'bodegalaw11.DiscoverStatus': WHATEVER THE INPUT: true; the input reads as it did. -/
def discoverStatusSpec : ChangeSpec := { name := "discoverStatus", fn := fun _ => fun
  | [d1, d2, d3, d4, d5, d6, d7, d8] => { results := [.lit (.bool true)], args := [d1, d2, d3, d4, d5, d6, d7, d8] }
  | _ => none }
def discoverStatusRow : OpenClaim := { program := "ytihfgcmmljnhnaagreat", sum := "804b5c085541154f2e9bd36acd13bce282e8564fd0dcb700616054b25eca6b22", func := "bodega/bodegalaw11.DiscoverStatus", spec := "discoverStatus", unfollowed := true, recurses := true, apart := false }
def DiscoverStatusSaid : Prop := discoverStatusRow.holds Tryz.pinned (OpenSpec.ofChange discoverStatusSpec)

/-- ITS FALSE NEIGHBOUR: 'it returns false'. Refute it at one input. -/
def discoverStatusWrong : ChangeSpec := { name := "discoverStatus", fn := fun _ => fun
  | [d1, d2, d3, d4, d5, d6, d7, d8] => { results := [.lit (.bool false)], args := [d1, d2, d3, d4, d5, d6, d7, d8] }
  | _ => none }
def DiscoverStatusWrongFalsely : Prop := discoverStatusRow.holds Tryz.pinned (OpenSpec.ofChange discoverStatusWrong)

/-- 'bodegalaw12.CommitValid': WHATEVER THE INPUT: true; the input reads as it did. -/
def commitValidSpec : ChangeSpec := { name := "commitValid", fn := fun _ => fun
  | [d1, d2] => { results := [.lit (.bool true)], args := [d1, d2] }
  | _ => none }
def commitValidRow : OpenClaim := { program := "ytihfgcmmljnhnaagreat", sum := "804b5c085541154f2e9bd36acd13bce282e8564fd0dcb700616054b25eca6b22", func := "bodega/bodegalaw12.CommitValid", spec := "commitValid", unfollowed := true, recurses := true, apart := false }
def CommitValidSaid : Prop := commitValidRow.holds Tryz.pinned (OpenSpec.ofChange commitValidSpec)

/-- ITS FALSE NEIGHBOUR: 'it returns false'. Refute it at one input. -/
def commitValidWrong : ChangeSpec := { name := "commitValid", fn := fun _ => fun
  | [d1, d2] => { results := [.lit (.bool false)], args := [d1, d2] }
  | _ => none }
def CommitValidWrongFalsely : Prop := commitValidRow.holds Tryz.pinned (OpenSpec.ofChange commitValidWrong)

/-- 'bodegalaw13.RecoveryValid': WHATEVER THE INPUT: true; the input reads as it did. -/
def recoveryValidSpec : ChangeSpec := { name := "recoveryValid", fn := fun _ => fun
  | [d1, d2] => { results := [.lit (.bool true)], args := [d1, d2] }
  | _ => none }
def recoveryValidRow : OpenClaim := { program := "ytihfgcmmljnhnaagreat", sum := "804b5c085541154f2e9bd36acd13bce282e8564fd0dcb700616054b25eca6b22", func := "bodega/bodegalaw13.RecoveryValid", spec := "recoveryValid", unfollowed := true, recurses := true, apart := false }
def RecoveryValidSaid : Prop := recoveryValidRow.holds Tryz.pinned (OpenSpec.ofChange recoveryValidSpec)

/-- ITS FALSE NEIGHBOUR: 'it returns false'. Refute it at one input. -/
def recoveryValidWrong : ChangeSpec := { name := "recoveryValid", fn := fun _ => fun
  | [d1, d2] => { results := [.lit (.bool false)], args := [d1, d2] }
  | _ => none }
def RecoveryValidWrongFalsely : Prop := recoveryValidRow.holds Tryz.pinned (OpenSpec.ofChange recoveryValidWrong)

/-- 'bodegalaw14.ReconfigValid': WHATEVER THE INPUT: true; the input reads as it did. -/
def reconfigValidSpec : ChangeSpec := { name := "reconfigValid", fn := fun _ => fun
  | [d1, d2] => { results := [.lit (.bool true)], args := [d1, d2] }
  | _ => none }
def reconfigValidRow : OpenClaim := { program := "ytihfgcmmljnhnaagreat", sum := "804b5c085541154f2e9bd36acd13bce282e8564fd0dcb700616054b25eca6b22", func := "bodega/bodegalaw14.ReconfigValid", spec := "reconfigValid", unfollowed := true, recurses := true, apart := false }
def ReconfigValidSaid : Prop := reconfigValidRow.holds Tryz.pinned (OpenSpec.ofChange reconfigValidSpec)

/-- ITS FALSE NEIGHBOUR: 'it returns false'. Refute it at one input. -/
def reconfigValidWrong : ChangeSpec := { name := "reconfigValid", fn := fun _ => fun
  | [d1, d2] => { results := [.lit (.bool false)], args := [d1, d2] }
  | _ => none }
def ReconfigValidWrongFalsely : Prop := reconfigValidRow.holds Tryz.pinned (OpenSpec.ofChange reconfigValidWrong)

/-- 'bodegalaw16.FetchValid': WHATEVER THE INPUT: true; the input reads as it did. -/
def fetchValidSpec : ChangeSpec := { name := "fetchValid", fn := fun _ => fun
  | [d1, d2] => { results := [.lit (.bool true)], args := [d1, d2] }
  | _ => none }
def fetchValidRow : OpenClaim := { program := "ytihfgcmmljnhnaagreat", sum := "804b5c085541154f2e9bd36acd13bce282e8564fd0dcb700616054b25eca6b22", func := "bodega/bodegalaw16.FetchValid", spec := "fetchValid", unfollowed := true, recurses := true, apart := false }
def FetchValidSaid : Prop := fetchValidRow.holds Tryz.pinned (OpenSpec.ofChange fetchValidSpec)

/-- ITS FALSE NEIGHBOUR: 'it returns false'. Refute it at one input. -/
def fetchValidWrong : ChangeSpec := { name := "fetchValid", fn := fun _ => fun
  | [d1, d2] => { results := [.lit (.bool false)], args := [d1, d2] }
  | _ => none }
def FetchValidWrongFalsely : Prop := fetchValidRow.holds Tryz.pinned (OpenSpec.ofChange fetchValidWrong)

/-- 'bodegalaw16.FetchLocks': WHATEVER THE INPUT: true; the input reads as it did. -/
def fetchLocksSpec : ChangeSpec := { name := "fetchLocks", fn := fun _ => fun
  | [d1, d2] => { results := [.lit (.bool true)], args := [d1, d2] }
  | _ => none }
def fetchLocksRow : OpenClaim := { program := "ytihfgcmmljnhnaagreat", sum := "804b5c085541154f2e9bd36acd13bce282e8564fd0dcb700616054b25eca6b22", func := "bodega/bodegalaw16.FetchLocks", spec := "fetchLocks", unfollowed := true, recurses := true, apart := false }
def FetchLocksSaid : Prop := fetchLocksRow.holds Tryz.pinned (OpenSpec.ofChange fetchLocksSpec)

/-- ITS FALSE NEIGHBOUR: 'it returns false'. Refute it at one input. -/
def fetchLocksWrong : ChangeSpec := { name := "fetchLocks", fn := fun _ => fun
  | [d1, d2] => { results := [.lit (.bool false)], args := [d1, d2] }
  | _ => none }
def FetchLocksWrongFalsely : Prop := fetchLocksRow.holds Tryz.pinned (OpenSpec.ofChange fetchLocksWrong)

/- THE SECOND FORM. 'bulk': how many values and letters a reading holds, each counted each time it is reached (what is shared counts as often as it is met; a slice's spare places count too). A statement '..UptoSaid' is the law's where the arguments, and the package variables that the reading takes, are together of bulk at most 1048576: NARROWER than '..Said'. Prove '..Said' where nothing that the law and all that it calls make is longer than what came in: it says more and counts as full. Else prove '..UptoSaid'. A law counts once. -/
mutual
def uptoBulk {H : Type} : DataW H → Nat
  | .lit (.string bytes) => bytes.length + 1
  | .lit _ => 1
  | .nil => 1
  | .ptr d => uptoBulk d + 1
  | .slice elems spare => uptoBulkAll elems + uptoBulkAll spare + 1
  | .agg parts => uptoBulkAll parts + 1
  | .iface _ d => uptoBulk d + 1
  | .map entries => uptoBulkEntries entries + 1
  | .held _ => 1
def uptoBulkAll {H : Type} : List (DataW H) → Nat
  | [] => 0
  | d :: r => uptoBulk d + uptoBulkAll r
def uptoBulkEntries {H : Type} : List (Lit × DataW H) → Nat
  | [] => 0
  | x :: r => uptoBulkEntry x + uptoBulkEntries r
def uptoBulkEntry {H : Type} : Lit × DataW H → Nat
  | (.string bytes, d) => bytes.length + uptoBulk d + 1
  | (_, d) => uptoBulk d + 1
 end
def uptoSmall : (H : Type) → List (DataW H) → Bool := fun _ ds => decide (uptoBulkAll ds ≤ 1048576)
def OpenSpec.upto (s : _root_.Go.ChangeSpec) : _root_.Go.OpenSpec := { _root_.Go.OpenSpec.ofChange s with cond := some uptoSmall }

/-- 'bodegalaw11.DiscoverStatus', WHERE WHAT IT READS IS OF BULK AT MOST 1048576: true; the input reads as it did. -/
def discoverStatusUptoRow : OpenClaim := { program := "ytihfgcmmljnhnaagreat", sum := "804b5c085541154f2e9bd36acd13bce282e8564fd0dcb700616054b25eca6b22", func := "bodega/bodegalaw11.DiscoverStatus", spec := "discoverStatus", unfollowed := true, recurses := true, apart := false, narrowed := true }
def DiscoverStatusUptoSaid : Prop := discoverStatusUptoRow.holds Tryz.pinned (OpenSpec.upto discoverStatusSpec)

/-- 'bodegalaw12.CommitValid', WHERE WHAT IT READS IS OF BULK AT MOST 1048576: true; the input reads as it did. -/
def commitValidUptoRow : OpenClaim := { program := "ytihfgcmmljnhnaagreat", sum := "804b5c085541154f2e9bd36acd13bce282e8564fd0dcb700616054b25eca6b22", func := "bodega/bodegalaw12.CommitValid", spec := "commitValid", unfollowed := true, recurses := true, apart := false, narrowed := true }
def CommitValidUptoSaid : Prop := commitValidUptoRow.holds Tryz.pinned (OpenSpec.upto commitValidSpec)

/-- 'bodegalaw13.RecoveryValid', WHERE WHAT IT READS IS OF BULK AT MOST 1048576: true; the input reads as it did. -/
def recoveryValidUptoRow : OpenClaim := { program := "ytihfgcmmljnhnaagreat", sum := "804b5c085541154f2e9bd36acd13bce282e8564fd0dcb700616054b25eca6b22", func := "bodega/bodegalaw13.RecoveryValid", spec := "recoveryValid", unfollowed := true, recurses := true, apart := false, narrowed := true }
def RecoveryValidUptoSaid : Prop := recoveryValidUptoRow.holds Tryz.pinned (OpenSpec.upto recoveryValidSpec)

/-- 'bodegalaw14.ReconfigValid', WHERE WHAT IT READS IS OF BULK AT MOST 1048576: true; the input reads as it did. -/
def reconfigValidUptoRow : OpenClaim := { program := "ytihfgcmmljnhnaagreat", sum := "804b5c085541154f2e9bd36acd13bce282e8564fd0dcb700616054b25eca6b22", func := "bodega/bodegalaw14.ReconfigValid", spec := "reconfigValid", unfollowed := true, recurses := true, apart := false, narrowed := true }
def ReconfigValidUptoSaid : Prop := reconfigValidUptoRow.holds Tryz.pinned (OpenSpec.upto reconfigValidSpec)

/-- 'bodegalaw16.FetchValid', WHERE WHAT IT READS IS OF BULK AT MOST 1048576: true; the input reads as it did. -/
def fetchValidUptoRow : OpenClaim := { program := "ytihfgcmmljnhnaagreat", sum := "804b5c085541154f2e9bd36acd13bce282e8564fd0dcb700616054b25eca6b22", func := "bodega/bodegalaw16.FetchValid", spec := "fetchValid", unfollowed := true, recurses := true, apart := false, narrowed := true }
def FetchValidUptoSaid : Prop := fetchValidUptoRow.holds Tryz.pinned (OpenSpec.upto fetchValidSpec)

/-- 'bodegalaw16.FetchLocks', WHERE WHAT IT READS IS OF BULK AT MOST 1048576: true; the input reads as it did. -/
def fetchLocksUptoRow : OpenClaim := { program := "ytihfgcmmljnhnaagreat", sum := "804b5c085541154f2e9bd36acd13bce282e8564fd0dcb700616054b25eca6b22", func := "bodega/bodegalaw16.FetchLocks", spec := "fetchLocks", unfollowed := true, recurses := true, apart := false, narrowed := true }
def FetchLocksUptoSaid : Prop := fetchLocksUptoRow.holds Tryz.pinned (OpenSpec.upto fetchLocksSpec)

end Rows
end Go.Proofs.YtihfgcmmljnhnaaGreat
