/- The sanity check of chapter 12: the kernel runs it (for seats without the laws of chapter 11). -/
import Derived.Test.YtfoepinpfaipgaaGreatSCt
set_option linter.unusedVariables false
namespace Go.Mx
open Go.Eng Go.Proofs Go.Proofs.YtfoepinpfaipgaaGreat

def need12 : List Nat := [6, 7, 10, 12, 13, 14, 16, 17, 18, 22, 23, 24, 25, 26, 27, 28, 29, 30, 31, 33, 34, 35, 36, 37, 38, 39, 40, 41, 42, 43, 44, 45, 46, 47, 48, 49, 50, 51, 52, 53, 54, 55, 56, 57, 58, 59, 60, 61, 62, 63, 64, 65, 66, 67, 68, 69, 70, 71, 72, 73, 74, 75, 76, 77, 78, 79, 80, 81, 82, 83, 84, 85, 86, 87, 88, 89, 90, 91, 92, 93, 94, 95, 96, 98, 99, 100, 101, 102, 103, 104, 105, 106, 107, 108, 109, 110, 111, 112, 113, 114, 115, 116, 117, 118, 119, 120, 121, 122, 123, 124, 125, 126, 127, 128, 129, 130, 132, 133, 134, 135, 136, 137, 138, 139, 140, 141, 142, 143, 144, 145, 146, 147, 148, 149, 150, 151, 152, 153, 154, 155, 156, 157, 158, 159, 160, 161, 163, 164, 165, 166, 167, 168, 169, 170, 171, 172, 173, 174, 175, 176, 177, 179]
theorem need12_ok : need12.all (okF Tryz.prog plans) = true := by kernel_rfl
theorem run12 : callK Tryz.prog (onlyF need12 S1) plans 50 7 [] hp0 (fun v _ => onB v True False) = True := by kernel_rfl
theorem awake12_c (w : World) : Does 7 [] w fun v w' => v = .bool true ∧ New w w' := run_true mix (S1_ok _) need12_ok run12
end Go.Mx
