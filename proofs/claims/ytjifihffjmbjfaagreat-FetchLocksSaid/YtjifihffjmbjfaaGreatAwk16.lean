/- The sanity check of chapter 16: the kernel runs it. -/
import Derived.Test.YtjifihffjmbjfaaGreatSPc
import Derived.Test.YtjifihffjmbjfaaGreatPlans
set_option linter.unusedVariables false
namespace Go.Mx
open Go.Eng Go.Proofs Go.Proofs.YtjifihffjmbjfaaGreat

noncomputable def S0 : Sm := fun f => match Nat.beq f 299 with | true => some sumPieces | false => none
theorem S0_ok (w : World) : ∀ f g, S0 f = some g → SumOk Tryz.prog w f g := by
  intro f g h
  unfold S0 at h
  split at h
  · rename_i e
    cases h
    have := beq_eq e
    subst this
    exact sumPieces_ok w
  · cases h

def need16 : List Nat := [9, 34, 41, 42, 44, 45, 49, 71, 79, 82, 90, 96, 102, 118, 122, 123, 132, 135, 136, 140, 142, 143, 144, 145, 146, 147, 152, 169, 171, 172, 173, 177, 183, 185, 186, 187, 188, 195, 196, 198, 199, 200, 202, 208, 221, 222, 223, 224, 225, 227, 228, 229, 230, 243, 245, 246, 247, 248, 249, 250, 251, 252, 255, 261, 262, 269, 270, 273, 274, 275, 276, 277, 278, 279, 280, 292, 293, 294, 295, 296, 297, 298, 300, 302, 317, 318, 319, 321, 322, 325, 341]
theorem need16_ok : need16.all (okF Tryz.prog plans) = true := by kernel_rfl
theorem run16 : callK Tryz.prog (onlyF need16 S0) plans 50 34 [] hp0 (fun v _ => onB v True False) = True := by kernel_rfl
theorem awake16_c (w : World) : Does 34 [] w fun v w' => v = .bool true ∧ New w w' := run_true mix (S0_ok w) need16_ok run16
end Go.Mx
