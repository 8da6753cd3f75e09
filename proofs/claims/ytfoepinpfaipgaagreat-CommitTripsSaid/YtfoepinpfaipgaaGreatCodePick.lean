/- The formulas of the functions, printed by gencode.py; each is checked by the kernel. -/
import Derived.Test.YtfoepinpfaipgaaGreatProg
import Derived.Test.YtfoepinpfaipgaaGreatRec
set_option linter.unusedVariables false
namespace Go.Proofs.YtfoepinpfaipgaaGreat
open Go.Eng
/-- bodega/bodegahand.Pick -/
theorem bodegahand_Pick_vc (p0 p1 : Int) (w : World) (R : Value → World → Prop) : fnW Tryz.prog Tryz.f6 [(.int .i64 p0), (.int .i64 p1)] R w = ((bif (decide ((p1 : Int) < 1)) then (R (.int .i64 0) w) else (IntKind.i64 = IntKind.i64 ∧ p1 ≠ 0 ∧ IntKind.i64 = IntKind.i64 ∧ p1 ≠ 0 ∧ R (.int .i64 (Int.tmod (IntKind.i64.wrap ((Int.tmod p0 p1) + p1)) p1)) w))) := by kernel_rfl
end Go.Proofs.YtfoepinpfaipgaaGreat
