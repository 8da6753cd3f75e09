/- The statement ReconfigValidSaid: for every input the law returns true, and the arguments read as they did. -/
import Derived.Test.YtaddcfkicmeebaaGreatOp14
import Derived.Test.YtaddcfkicmeebaaGreatRCL
set_option linter.unusedVariables false
namespace Go.Proofs.YtaddcfkicmeebaaGreat
open Go.ChangeShapes Go.WideShapes Go.ChangeAt Go.RowKit Go.Eng

set_option maxRecDepth 100000 in
theorem liftedRC (os : Os) (started : os.Started) (H : Type) (enc : TypeId × Value → H) :
    ReturnsInHanded {} Tryz.checked os 3 .any (Rows.reconfigValidSpec.pre6 enc Tryz.prog Tryz.f3 Rows.reconfigValidRow.domain false) (Rows.reconfigValidSpec.post enc Tryz.prog Tryz.f3 false true false false) := by
  refine returnsInHanded_of_change (C := Tryz.checked) ownKn started (by kernel_rfl) Tryz.func3
    (ChangeSpec.witness6 (enc := enc) (C := Tryz.checked) false ⟨#[], #[.agg #[.int .i64 0, .int .i64 0, .int .i64 0, .int .i64 0], .int .i64 0], []⟩ 8 (by kernel_rfl) (by kernel_rfl) (by kernel_rfl) (by kernel_rfl)) ?_
  intro W base args ds gs before hval0 hW hcnd _
  have hval : ∀ (j : Nat) t v, Tryz.f3.params[j]? = some t → args[j]? = some v → Value.okWide Tryz.prog W .any base t v := hval0
  have hW' := hW
  obtain ⟨p, q, hA0, hV, rfl, hfz, hnd⟩ := hW
  have hA : DataW.TrodAll enc Tryz.prog W 0 (fun _ => true) true Tryz.f3.params.toList args.toList ds p := hA0
  rw [Tryz.params3] at hA hval
  obtain ⟨v0, v1, d0, d1, p0, p1, rfl, rfl, rfl, h0, h1⟩ := trodAll_two hA
  obtain ⟨rfl, rfl⟩ := trodVars_none hV
  obtain ⟨j, rfl, hj⟩ := open_reconfig (hval 0 _ v0 rfl rfl) h0
  obtain ⟨a1, rfl, _, _, w1⟩ := open_int Tryz.underlying3 (hval 1 _ v1 rfl rfl) h1
  refine (ReconfigValid_c W hj (i64_of w1)).mono fun e W' ⟨x, he, hx, hg⟩ => ?_
  subst he hx
  refine ⟨_, rfl, law_post hW' hg (by rw [Tryz.params3]; decide +kernel) rfl rfl (tb := 4) (by kernel_rfl) Tryz.underlying4⟩

theorem rc1 : Rows.reconfigValidRow.wf (OpenSpec.ofChange Rows.reconfigValidSpec) = true := by kernel_rfl
theorem rc2 : mapsRowed Tryz.prog = true := by kernel_rfl
theorem rc3 : Tryz.f3.params.all (Tryz.prog.readableRec ·) = true := by kernel_rfl
theorem rc4 : namedTie Tryz.prog Rows.reconfigValidRow.named Rows.reconfigValidSpec.vars = true := by kernel_rfl
theorem rc5 : (Rows.reconfigValidRow.inPlace == Tryz.prog.inPlace 3) = true := by kernel_rfl
theorem rc6 : (Rows.reconfigValidRow.unfollowed == Tryz.prog.unfollowed 3) = true := by kernel_rfl
theorem rc7 : (Rows.reconfigValidRow.recurses == Tryz.prog.recurses 3) = true := by kernel_rfl
theorem rc8 : (Rows.reconfigValidRow.named == Tryz.prog.varsNamed 3) = true := by kernel_rfl
theorem closedRC : joinedFacts Tryz.prog 3 Tryz.f3 Rows.reconfigValidSpec Rows.reconfigValidRow = true := by
  unfold joinedFacts
  rw [rc1, laid, rc2, rc3, rc4, rc5, rc6, rc7, rc8]
  kernel_rfl

theorem overRC : Rows.reconfigValidRow.holds Tryz.pinned (OpenSpec.ofChange Rows.reconfigValidSpec) :=
  OpenClaim.holds_of_wide 3 Tryz.f3 rfl rfl rfl rfl rfl rfl rfl ⟨rfl, rfl, rfl, rfl, rfl⟩ rfl rfl rfl rfl rfl (by kernel_rfl) Tryz.func3 closedRC
    (of_decide_eq_true (by kernel_rfl)) (by unfold Func.isWrapper; first | (rw [if_pos (by decide +kernel)]; kernel_rfl) | (rw [if_neg (by decide +kernel)]; exact ⟨rfl, rfl⟩))
    (fun os started H enc _ => liftedRC os started H enc)

/-- The statement. -/
theorem reconfigValid_holds : Rows.ReconfigValidSaid := overRC
#print axioms reconfigValid_holds
end Go.Proofs.YtaddcfkicmeebaaGreat
