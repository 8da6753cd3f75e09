/- The sanity check of chapter 11: the kernel runs it. -/
import Derived.Test.YtmphhkikakblcaaGreatSPc
import Derived.Test.YtmphhkikakblcaaGreatPlans
set_option linter.unusedVariables false
namespace Go.Mx
open Go.Eng Go.Proofs Go.Proofs.YtmphhkikakblcaaGreat

noncomputable def S0 : Sm := fun f => match Nat.beq f 77 with | true => some sumPieces | false => none
theorem S0_ok (w : Bs) : ∀ f g, S0 f = some g → SumOk Tryz.prog w f g := by
  intro f g h
  unfold S0 at h
  split at h
  · rename_i e
    cases h
    have := beq_eq e
    subst this
    exact sumPieces_ok w
  · cases h

def need11 : List Nat := [4, 5, 6, 7, 8, 9, 10, 11, 13, 14, 15, 16, 17, 18, 19, 20, 21, 22, 23, 24, 25, 26, 27, 28, 29, 30, 31, 32, 33, 34, 35, 36, 37, 38, 39, 40, 41, 42, 43, 44, 45, 46, 47, 48, 49, 50, 51, 52, 53, 54, 55, 56, 57, 58, 59, 60, 61, 62, 63, 64, 65, 66, 67, 68, 69, 70, 71, 72, 73, 74, 75, 76, 78, 79, 80, 81, 82, 83, 84, 85, 86, 87, 88, 89, 90, 91, 92, 93, 94, 95, 96, 97, 98, 99, 101, 102, 103, 104, 105, 106, 107, 108, 109, 110, 111, 112, 113, 115, 116, 117, 118, 119]
theorem need11_ok : need11.all (okF Tryz.prog plans) = true := by kernel_rfl
theorem run11 : callK Tryz.prog (onlyF need11 S0) plans 50 6 [] hp0 (fun v _ => onB v True False) = True := by kernel_rfl
theorem awake11_c (w : World) : Does 6 [] w fun v w' => v = .bool true ∧ New w w' := run_true mix (S0_ok _) need11_ok run11
end Go.Mx
