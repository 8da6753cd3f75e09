/- CommitTrips: the law as one run of the semantics, for given remainders of its inputs. -/
import Derived.Test.YtfoepinpfaipgaaGreatA12
import Derived.Test.YtfoepinpfaipgaaGreatSy
set_option linter.unusedVariables false
namespace Go.Mx
open Go.Eng Go.Proofs Go.Proofs.YtfoepinpfaipgaaGreat

noncomputable section
def SA : Sm := fun f => match Nat.beq f 7 with
  | true => some sumTrue
  | false => S1 f
theorem SA_ok (w : Bs) : ∀ f g, SA f = some g → SumOk Tryz.prog w f g := by
  intro f g h
  unfold SA at h
  split at h
  · rename_i e
    cases h
    have := beq_eq e
    subst this
    exact sumTrue_ok awake12_c
  · exact S1_ok w f g h

def needCT : List Nat := [4, 5, 6, 8, 9, 10, 12, 13, 14, 15, 16, 17, 18, 22, 23, 24, 25, 26, 27, 28, 29, 30, 31, 33, 34, 35, 36, 37, 38, 39, 40, 41, 42, 43, 44, 45, 46, 47, 48, 49, 50, 51, 52, 53, 54, 55, 56, 57, 58, 59, 60, 61, 62, 63, 64, 65, 66, 67, 68, 69, 70, 71, 72, 73, 74, 75, 76, 77, 78, 79, 80, 81, 82, 83, 84, 85, 86, 87, 88, 89, 90, 91, 92, 93, 94, 95, 96, 98, 99, 100, 101, 102, 103, 104, 105, 106, 107, 108, 109, 110, 111, 112, 113, 114, 115, 116, 117, 118, 119, 120, 121, 122, 123, 124, 125, 126, 127, 128, 129, 130, 132, 133, 134, 135, 136, 137, 138, 139, 140, 141, 142, 143, 144, 145, 146, 147, 148, 149, 150, 151, 152, 153, 154, 155, 156, 157, 158, 159, 160, 161, 163, 164, 165, 166, 167, 168, 169, 170, 171, 172, 173, 174, 175, 176, 177, 179]
theorem needCT_ok : needCT.all (okF Tryz.prog plans) = true := by kernel_rfl

def rnT (a b c : Nat) (x y z : Int) : Prop := callX (xPick [(4, a), (6, b), (14, c)] []) Tryz.prog (onlyF needCT SA) plans 60 4 [.c (.i 3 x), .c (.i 3 y), .c (.i 3 z)] hp0 (fun v _ => onB v True False)
/-- What is asked of the inputs. -/
def chainT (a b c : Nat) (x y z : Int) : Prop := G x 4 a ∧ (G y 6 b ∧ (G z 14 c ∧ (G z 14 c ∧ (G z 14 c ∧ (G z 14 c ∧ True)))))
end
end Go.Mx
