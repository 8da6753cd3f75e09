/- The statement RecoveryValidSaid: for every input the law returns true, and the arguments read as they did. -/
import Derived.Test.YtppcleiekdbndaaGreatOpen13
import Derived.Test.YtppcleiekdbndaaGreatAwk13
set_option linter.unusedVariables false
namespace Go.Proofs.YtppcleiekdbndaaGreat
open Go.ChangeShapes Go.WideShapes Go.ChangeAt Go.RowKit Go.Eng

set_option maxRecDepth 100000 in
theorem liftedRV (os : Os) (started : os.Started) (H : Type) (enc : TypeId × Value → H) :
    ReturnsInHanded {} Tryz.checked os 5 .any (Rows.recoveryValidSpec.pre6 enc Tryz.prog Tryz.f5 Rows.recoveryValidRow.domain false) (Rows.recoveryValidSpec.post enc Tryz.prog Tryz.f5 false true false false) := by
  refine returnsInHanded_of_change (C := Tryz.checked) ownKn started (by kernel_rfl) Tryz.func5
    (ChangeSpec.witness6 (enc := enc) (C := Tryz.checked) false ⟨#[], #[.agg #[.int .i64 0, .int .i64 0, .int .i64 0, .int .i64 0, .slice none 0 0, .int .i64 0, .int .i64 0, .int .u64 0], .agg #[.int .i64 0, .int .i64 0, .int .i64 0, .int .i64 0, .int .i64 0, .int .i64 0, .int .i64 0, .int .i64 0, .int .i64 0, .int .i64 0]], []⟩ 8 (by kernel_rfl) (by kernel_rfl) (by kernel_rfl) (by kernel_rfl)) ?_
  intro W base args ds gs before hval0 hW hcnd _
  have hval : ∀ (j : Nat) t v, Tryz.f5.params[j]? = some t → args[j]? = some v → Value.okWide Tryz.prog W .any base t v := hval0
  have hW' := hW
  obtain ⟨p, q, hA0, hV, rfl, hfz, hnd⟩ := hW
  have hA : DataW.TrodAll enc Tryz.prog W 0 (fun _ => true) true Tryz.f5.params.toList args.toList ds p := hA0
  rw [Tryz.params5] at hA hval
  obtain ⟨v0, v1, d0, d1, p0, p1, rfl, rfl, rfl, h0, h1⟩ := trodAll_two hA
  obtain ⟨rfl, rfl⟩ := trodVars_none hV
  obtain ⟨j, vw, rfl, hj, hju⟩ := open_recovery (hval 0 _ v0 rfl rfl) h0
  obtain ⟨r, rfl, hr⟩ := open_raw13 (hval 1 _ v1 rfl rfl) h1
  refine (RecoveryValid_of Go.Mx.awake13_c W hj hju hr).mono fun e W' ⟨x, he, hx, hg⟩ => ?_
  subst he hx
  refine ⟨_, rfl, law_post hW' hg (by rw [Tryz.params5]; decide +kernel) rfl rfl (tb := 4) (by kernel_rfl) Tryz.underlying4⟩

theorem rv1 : Rows.recoveryValidRow.wf (OpenSpec.ofChange Rows.recoveryValidSpec) = true := by kernel_rfl
theorem rv2 : mapsRowed Tryz.prog = true := by kernel_rfl
theorem rv3 : Tryz.f5.params.all (Tryz.prog.readableRec ·) = true := by kernel_rfl
theorem rv4 : namedTie Tryz.prog Rows.recoveryValidRow.named Rows.recoveryValidSpec.vars = true := by kernel_rfl
theorem rv5 : (Rows.recoveryValidRow.inPlace == Tryz.prog.inPlace 5) = true := by kernel_rfl
theorem rv6 : (Rows.recoveryValidRow.unfollowed == Tryz.prog.unfollowed 5) = true := by kernel_rfl
theorem rv7 : (Rows.recoveryValidRow.recurses == Tryz.prog.recurses 5) = true := by kernel_rfl
theorem rv8 : (Rows.recoveryValidRow.named == Tryz.prog.varsNamed 5) = true := by kernel_rfl
theorem closedRV : joinedFacts Tryz.prog 5 Tryz.f5 Rows.recoveryValidSpec Rows.recoveryValidRow = true := by
  unfold joinedFacts
  rw [rv1, laid, rv2, rv3, rv4, rv5, rv6, rv7, rv8]
  kernel_rfl

theorem overRV : Rows.recoveryValidRow.holds Tryz.pinned (OpenSpec.ofChange Rows.recoveryValidSpec) :=
  OpenClaim.holds_of_wide 5 Tryz.f5 rfl rfl rfl rfl rfl rfl rfl ⟨rfl, rfl, rfl, rfl, rfl⟩ rfl rfl rfl rfl rfl (by kernel_rfl) Tryz.func5 closedRV
    (of_decide_eq_true (by kernel_rfl)) (by unfold Func.isWrapper; first | (rw [if_pos (by decide +kernel)]; kernel_rfl) | (rw [if_neg (by decide +kernel)]; exact ⟨rfl, rfl⟩))
    (fun os started H enc _ => liftedRV os started H enc)

/-- The statement. -/
theorem recoveryValid_holds : Rows.RecoveryValidSaid := overRV
#print axioms recoveryValid_holds
end Go.Proofs.YtppcleiekdbndaaGreat
