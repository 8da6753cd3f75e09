/- The sanity check of chapter 16: the kernel runs it. -/
import Derived.Test.YtihfgcmmljnhnaaGreatSPc
import Derived.Test.YtihfgcmmljnhnaaGreatPlans
set_option linter.unusedVariables false
namespace Go.Mx
open Go.Eng Go.Proofs Go.Proofs.YtihfgcmmljnhnaaGreat

noncomputable def S0 : Sm := fun f => match Nat.beq f 200 with | true => some sumPieces | false => none
theorem S0_ok (w : World) : ∀ f g, S0 f = some g → SumOk Tryz.prog w f g := by
  intro f g h
  unfold S0 at h
  split at h
  · rename_i e
    cases h
    have := beq_eq e
    subst this
    exact sumPieces_ok w
  · cases h

def need16 : List Nat := [11, 32, 33, 39, 41, 45, 52, 55, 65, 71, 72, 78, 82, 83, 84, 86, 89, 91, 92, 93, 94, 99, 102, 104, 105, 106, 112, 115, 116, 117, 118, 121, 122, 123, 125, 126, 127, 128, 129, 131, 132, 133, 135, 147, 148, 149, 150, 151, 152, 153, 154, 155, 156, 157, 160, 161, 166, 167, 168, 169, 170, 171, 172, 174, 181, 182, 183, 185, 186, 190, 193, 194, 195, 196, 197, 198, 199, 201, 204, 206, 207, 233, 234, 235, 237, 238, 240, 241, 242, 272, 282]
theorem need16_ok : need16.all (okF Tryz.prog plans) = true := by kernel_rfl
theorem run16 : callK Tryz.prog (onlyF need16 S0) plans 50 32 [] hp0 (fun v _ => onB v True False) = True := by kernel_rfl
theorem awake16_c (w : World) : Does 32 [] w fun v w' => v = .bool true ∧ New w w' := run_true mix (S0_ok w) need16_ok run16
end Go.Mx
