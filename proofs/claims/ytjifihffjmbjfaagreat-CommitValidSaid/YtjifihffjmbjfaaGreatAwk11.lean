/- The sanity check of chapter 11: the kernel runs it. -/
import Derived.Test.YtjifihffjmbjfaaGreatSPc
import Derived.Test.YtjifihffjmbjfaaGreatPlans
set_option linter.unusedVariables false
namespace Go.Mx
open Go.Eng Go.Proofs Go.Proofs.YtjifihffjmbjfaaGreat

noncomputable def S0 : Sm := fun f => match Nat.beq f 299 with | true => some sumPieces | false => none
theorem S0_ok (w : World) : ∀ f g, S0 f = some g → SumOk Tryz.prog w f g := by
  intro f g h
  unfold S0 at h
  split at h
  · rename_i e
    cases h
    have := beq_eq e
    subst this
    exact sumPieces_ok w
  · cases h

def need11 : List Nat := [9, 11, 14, 18, 41, 42, 43, 44, 45, 49, 50, 57, 58, 59, 60, 61, 62, 63, 64, 79, 96, 118, 122, 123, 124, 130, 131, 132, 133, 134, 135, 136, 142, 143, 144, 145, 146, 147, 169, 171, 172, 173, 175, 176, 183, 185, 186, 187, 188, 189, 195, 196, 198, 199, 200, 202, 208, 210, 221, 222, 223, 224, 225, 227, 228, 229, 243, 245, 246, 247, 248, 249, 250, 251, 252, 253, 255, 269, 270, 271, 273, 274, 275, 276, 277, 278, 279, 288, 289, 290, 292, 293, 294, 295, 296, 297, 298, 300, 305, 306, 307, 308, 309, 310, 317, 318, 319, 321, 322, 328, 329, 341]
theorem need11_ok : need11.all (okF Tryz.prog plans) = true := by kernel_rfl
theorem run11 : callK Tryz.prog (onlyF need11 S0) plans 50 14 [] hp0 (fun v _ => onB v True False) = True := by kernel_rfl
theorem awake11_c (w : World) : Does 14 [] w fun v w' => v = .bool true ∧ New w w' := run_true mix (S0_ok w) need11_ok run11
end Go.Mx
