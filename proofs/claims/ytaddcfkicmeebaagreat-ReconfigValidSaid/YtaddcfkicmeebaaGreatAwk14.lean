/- The sanity check of chapter 14: the kernel runs it; ranges over chunks and over the keys of empty maps. -/
import Derived.Test.YtaddcfkicmeebaaGreatSCt
import Derived.Test.YtaddcfkicmeebaaGreatCk
import Derived.Test.YtaddcfkicmeebaaGreatKy
set_option linter.unusedVariables false
namespace Go.Mx
open Go.Eng Go.Proofs Go.Proofs.YtaddcfkicmeebaaGreat

def needP : List Nat := [50, 119, 122, 162, 163, 164, 165, 169, 207, 218, 221, 231, 241, 242, 243, 244, 248, 249, 262]
theorem needP_ok : needP.all (okF Tryz.prog plans) = true := by kernel_rfl
theorem parse_plan : okFR Tryz.prog (plans 231) 231 = true := by kernel_rfl

noncomputable def sumParse : List V → Hp → KV → Prop := (fnR (some 249) [] Tryz.prog (plans 231) 231).go (callK Tryz.prog (onlyF needP S1) plans 40)

theorem sumParse_ok (w0 : Bs) : SumOk Tryz.prog w0 231 sumParse :=
  fnR_sound mix (fun ch h => by cases h; exact chunk_ok) (fun ke h => by cases h) (fun w0 => callK_sound (draw_ok mix) (onlyF_sum (S1_ok w0)) (onlyF_ok needP_ok) 40) parse_plan


def keysL : List FuncId := [237, 239]
theorem app_plan : okFR Tryz.prog (plans 245) 245 = true := by kernel_rfl
noncomputable def sumApp : List V → Hp → KV → Prop := (fnR none keysL Tryz.prog (plans 245) 245).go (callK Tryz.prog (onlyF needP S1) plans 40)

theorem sumApp_ok (w0 : Bs) : SumOk Tryz.prog w0 245 sumApp :=
  fnR_sound mix (fun ch h => by cases h) (fun ke h => by
    rcases List.mem_cons.1 h with h | h
    · subst h; exact keysR_ok
    · rcases List.mem_cons.1 h with h | h
      · subst h; exact keysB_ok
      · cases h) (fun w0 => callK_sound (draw_ok mix) (onlyF_sum (S1_ok w0)) (onlyF_ok needP_ok) 40) app_plan

noncomputable def S3 : Sm := fun f => match Nat.beq f 231 with | true => some sumParse | false => (match Nat.beq f 245 with | true => some sumApp | false => S1 f)
set_option maxRecDepth 100000 in
theorem S3_ok (w : Bs) : ∀ f g, S3 f = some g → SumOk Tryz.prog w f g := by
  intro f g h
  unfold S3 at h
  split at h
  · rename_i e
    cases h
    have := beq_eq e
    subst this
    exact sumParse_ok w
  · split at h
    · rename_i e
      cases h
      have := beq_eq e
      subst this
      exact sumApp_ok w
    · exact S1_ok w f g h

def need14 : List Nat := [5, 6, 7, 11, 12, 13, 14, 15, 16, 17, 19, 20, 21, 22, 23, 24, 25, 27, 28, 29, 30, 31, 32, 33, 34, 35, 36, 37, 38, 39, 40, 41, 42, 43, 44, 45, 46, 47, 48, 49, 50, 51, 52, 53, 54, 55, 56, 57, 58, 59, 60, 61, 62, 63, 64, 65, 66, 67, 68, 69, 70, 71, 72, 73, 74, 75, 76, 77, 78, 79, 80, 81, 82, 83, 84, 85, 86, 87, 88, 89, 90, 91, 92, 93, 94, 95, 96, 97, 98, 99, 101, 102, 103, 104, 105, 106, 107, 108, 109, 110, 111, 112, 113, 114, 115, 116, 117, 118, 119, 120, 121, 122, 123, 124, 125, 126, 127, 128, 129, 130, 131, 132, 133, 134, 135, 136, 137, 138, 139, 140, 141, 142, 143, 144, 145, 146, 147, 149, 150, 151, 152, 153, 154, 155, 156, 157, 158, 159, 160, 161, 162, 163, 164, 165, 166, 167, 168, 169, 170, 171, 172, 173, 174, 175, 176, 177, 178, 179, 180, 181, 182, 183, 184, 185, 186, 187, 188, 189, 190, 191, 192, 193, 194, 195, 196, 197, 198, 199, 200, 201, 202, 203, 204, 205, 206, 207, 208, 209, 210, 211, 212, 213, 214, 216, 217, 218, 219, 220, 221, 222, 223, 224, 225, 226, 227, 228, 229, 230, 232, 233, 234, 235, 236, 237, 238, 239, 240, 241, 245, 246, 247, 248, 250, 251, 252, 253, 254, 255, 256, 257, 258, 259, 260, 262, 263, 264, 265, 266, 267, 268, 269]
theorem need14_ok : need14.all (okF Tryz.prog plans) = true := by kernel_rfl
theorem run14 : callK Tryz.prog (onlyF need14 S3) plans 50 6 [] hp0 (fun v _ => onB v True False) = True := by kernel_rfl
theorem awake14_c (w : World) : Does 6 [] w fun v w' => v = .bool true ∧ New w w' := run_true mix (S3_ok _) need14_ok run14
end Go.Mx
