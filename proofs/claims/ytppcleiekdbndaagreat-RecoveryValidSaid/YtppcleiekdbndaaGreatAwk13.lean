/- The sanity check of chapter 13: the kernel runs it; the function that parses a record ranges over chunks. -/
import Derived.Test.YtppcleiekdbndaaGreatSCt
import Derived.Test.YtppcleiekdbndaaGreatCk
set_option linter.unusedVariables false
namespace Go.Mx
open Go.Eng Go.Proofs Go.Proofs.YtppcleiekdbndaaGreat

def needP : List Nat := [191, 214, 217, 239, 240, 241, 242, 246, 269, 270, 273, 285, 286, 288, 289, 290, 291, 293, 295]
theorem needP_ok : needP.all (okF Tryz.prog plans) = true := by kernel_rfl
theorem parse_plan : okFR Tryz.prog (plans 285) 285 = true := by kernel_rfl

noncomputable def sumParse : List V → Hp → KV → Prop := (fnR 293 Tryz.prog (plans 285) 285).go (callK Tryz.prog (onlyF needP S1) plans 40)

theorem sumParse_ok (w0 : Bs) : SumOk Tryz.prog w0 285 sumParse :=
  fnR_sound mix chunk_ok (fun w0 => callK_sound (draw_ok mix) (onlyF_sum (S1_ok w0)) (onlyF_ok needP_ok) 40) parse_plan

noncomputable def S2 : Sm := fun f => match Nat.beq f 285 with | true => some sumParse | false => S1 f
set_option maxRecDepth 100000 in
theorem S2_ok (w : Bs) : ∀ f g, S2 f = some g → SumOk Tryz.prog w f g := by
  intro f g h
  unfold S2 at h
  split at h
  · rename_i e
    cases h
    have := beq_eq e
    subst this
    exact sumParse_ok w
  · exact S1_ok w f g h

def need13 : List Nat := [6, 8, 15, 18, 19, 25, 26, 27, 28, 29, 33, 42, 43, 44, 45, 46, 47, 48, 49, 57, 60, 61, 62, 63, 64, 65, 66, 67, 68, 77, 84, 88, 89, 96, 97, 98, 99, 100, 101, 102, 106, 108, 109, 110, 111, 112, 113, 114, 115, 116, 117, 118, 119, 120, 121, 131, 133, 134, 135, 136, 143, 144, 145, 146, 147, 148, 149, 150, 151, 152, 153, 154, 155, 156, 160, 162, 163, 164, 165, 166, 167, 168, 169, 170, 173, 174, 175, 176, 177, 178, 179, 180, 181, 182, 183, 184, 185, 191, 192, 193, 194, 195, 196, 197, 198, 199, 200, 201, 202, 203, 204, 205, 207, 208, 209, 210, 211, 212, 213, 214, 215, 216, 217, 218, 219, 220, 221, 222, 223, 224, 225, 226, 227, 228, 229, 230, 231, 232, 234, 235, 236, 237, 238, 239, 240, 241, 242, 243, 244, 245, 246, 247, 248, 249, 250, 251, 252, 253, 254, 255, 256, 257, 258, 259, 260, 261, 262, 263, 264, 265, 266, 267, 269, 270, 271, 272, 273, 274, 275, 276, 277, 278, 279, 280, 281, 282, 283, 284, 286, 287, 291, 292, 295]
theorem need13_ok : need13.all (okF Tryz.prog plans) = true := by kernel_rfl
theorem run13 : callK Tryz.prog (onlyF need13 S2) plans 50 18 [] hp0 (fun v _ => onB v True False) = True := by kernel_rfl
theorem awake13_c (w : World) : Does 18 [] w fun v w' => v = .bool true ∧ New w w' := run_true mix (S2_ok _) need13_ok run13
end Go.Mx
