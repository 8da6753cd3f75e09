/- The sanity check of chapter 11: the kernel runs it. -/
import Derived.Test.YtihfgcmmljnhnaaGreatSPc
import Derived.Test.YtihfgcmmljnhnaaGreatPlans
set_option linter.unusedVariables false
namespace Go.Mx
open Go.Eng Go.Proofs Go.Proofs.YtihfgcmmljnhnaaGreat

noncomputable def S0 : Sm := fun f => match Nat.beq f 200 with | true => some sumPieces | false => none
theorem S0_ok (w : World) : ∀ f g, S0 f = some g → SumOk Tryz.prog w f g := by
  intro f g h
  unfold S0 at h
  split at h
  · rename_i e
    cases h
    have := beq_eq e
    subst this
    exact sumPieces_ok w
  · cases h

def need11 : List Nat := [11, 12, 14, 39, 41, 42, 52, 65, 71, 72, 76, 82, 83, 84, 85, 89, 91, 92, 93, 94, 102, 104, 105, 106, 108, 109, 115, 116, 117, 118, 119, 121, 122, 123, 125, 126, 127, 128, 129, 131, 132, 133, 147, 148, 149, 150, 151, 152, 153, 154, 155, 156, 157, 158, 160, 161, 162, 163, 166, 167, 168, 169, 170, 171, 172, 181, 182, 183, 184, 185, 186, 187, 188, 189, 193, 194, 195, 196, 197, 198, 199, 201, 206, 207, 208, 209, 210, 211, 212, 213, 214, 215, 216, 217, 218, 219, 220, 221, 233, 234, 235, 237, 238, 242, 243, 244, 245, 246, 247, 248, 272, 282]
theorem need11_ok : need11.all (okF Tryz.prog plans) = true := by kernel_rfl
theorem run11 : callK Tryz.prog (onlyF need11 S0) plans 50 14 [] hp0 (fun v _ => onB v True False) = True := by kernel_rfl
theorem awake11_c (w : World) : Does 14 [] w fun v w' => v = .bool true ∧ New w w' := run_true mix (S0_ok w) need11_ok run11
end Go.Mx
