/- The sanity check of chapter 12: the kernel runs it. -/
import Derived.Test.YtjifihffjmbjfaaGreatAwk11
import Derived.Test.YtjifihffjmbjfaaGreatPlans
set_option linter.unusedVariables false
namespace Go.Mx
open Go.Eng Go.Proofs Go.Proofs.YtjifihffjmbjfaaGreat

def need12 : List Nat := [9, 11, 18, 21, 22, 26, 41, 42, 43, 44, 45, 49, 57, 58, 59, 60, 61, 62, 63, 64, 71, 75, 76, 77, 78, 79, 80, 81, 82, 83, 84, 90, 91, 96, 103, 111, 118, 122, 123, 130, 131, 132, 133, 134, 135, 136, 140, 141, 142, 143, 144, 145, 146, 147, 148, 149, 150, 151, 152, 155, 156, 157, 158, 159, 169, 171, 172, 173, 175, 176, 183, 185, 186, 187, 188, 195, 196, 197, 198, 199, 200, 201, 202, 203, 204, 205, 206, 207, 208, 209, 210, 211, 212, 213, 214, 215, 221, 222, 223, 224, 225, 227, 228, 229, 243, 245, 246, 247, 248, 249, 250, 251, 252, 255, 256, 257, 258, 259, 260, 261, 262, 263, 264, 265, 269, 270, 271, 273, 274, 275, 276, 277, 278, 279, 287, 288, 289, 290, 292, 293, 294, 295, 296, 297, 298, 300, 304, 305, 306, 307, 308, 309, 310, 317, 318, 319, 321, 322, 326, 327, 328, 329, 341]
theorem need12_ok : need12.all (okF Tryz.prog plans) = true := by kernel_rfl
theorem run12 : callK Tryz.prog (onlyF need12 S0) plans 50 21 [] hp0 (fun v _ => onB v True False) = True := by kernel_rfl
theorem awake12_c (w : World) : Does 21 [] w fun v w' => v = .bool true ∧ New w w' := run_true mix (S0_ok w) need12_ok run12
end Go.Mx
