/- The formulas of the functions, printed by gencode.py; each is checked by the kernel. -/
import Derived.Test.YtppcleiekdbndaaGreatProg
import Derived.Test.YtppcleiekdbndaaGreatRec
set_option linter.unusedVariables false
namespace Go.Proofs.YtppcleiekdbndaaGreat
open Go.Eng
/-- bodega/word.Unlocked -/
theorem word_Unlocked_vc (p0 : Int) (w : World) (R : Value → World → Prop) : fnW Tryz.prog Tryz.f217 [(.int .u64 p0)] R w = (R (.bool (((band .u64 p0 255) : Int) == 0)) w) := by kernel_rfl
/-- bodega/word.SplitHeader -/
theorem word_SplitHeader_vc (p0 : Int) (w : World) (R : Value → World → Prop) : fnW Tryz.prog Tryz.f270 [(.int .u64 p0)] R w = (R (.tuple #[(.int .u64 (bshr .u64 p0 8)), (.int .i64 (IntKind.i64.wrap (band .u64 p0 255)))]) w) := by kernel_rfl
end Go.Proofs.YtppcleiekdbndaaGreat
