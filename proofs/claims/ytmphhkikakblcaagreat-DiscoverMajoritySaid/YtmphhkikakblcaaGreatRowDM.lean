/- The statement DiscoverMajoritySaid: for every input the law returns true. -/
import Derived.Test.YtmphhkikakblcaaGreatPostLaw
import Derived.Test.YtmphhkikakblcaaGreatDM4
set_option linter.unusedVariables false
namespace Go.Proofs.YtmphhkikakblcaaGreat
open Go.ChangeShapes Go.WideShapes Go.ChangeAt Go.RowKit Go.Eng

set_option maxRecDepth 100000 in
theorem liftedDM (os : Os) (started : os.Started) (H : Type) (enc : TypeId × Value → H) :
    ReturnsInHanded {} Tryz.checked os 3 .any (Rows.discoverMajoritySpec.pre6 enc Tryz.prog Tryz.f3 Rows.discoverMajorityRow.domain false) (Rows.discoverMajoritySpec.post enc Tryz.prog Tryz.f3 false true false false) := by
  refine returnsInHanded_of_change (C := Tryz.checked) ownKn started (by kernel_rfl) Tryz.func3
    (ChangeSpec.witness6 (enc := enc) (C := Tryz.checked) false ⟨#[], #[.int .i64 0, .int .i64 0, .int .i64 0], []⟩ 8 (by kernel_rfl) (by kernel_rfl) (by kernel_rfl) (by kernel_rfl)) ?_
  intro W base args ds gs before hval0 hW hcnd _
  have hval : ∀ (j : Nat) t v, Tryz.f3.params[j]? = some t → args[j]? = some v → Value.okWide Tryz.prog W .any base t v := hval0
  have hW' := hW
  obtain ⟨p, q, hA0, hV, rfl, hfz, hnd⟩ := hW
  have hA : DataW.TrodAll enc Tryz.prog W 0 (fun _ => true) true Tryz.f3.params.toList args.toList ds p := hA0
  rw [Tryz.params3] at hA hval
  obtain ⟨v0, v1, v2, d0, d1, d2, p0, p1, p2, rfl, rfl, rfl, h0, h1, h2⟩ := trodAll_three hA
  obtain ⟨rfl, rfl⟩ := trodVars_none hV
  obtain ⟨a0, rfl, _, _, w0⟩ := open_int Tryz.underlying3 (hval 0 _ v0 rfl rfl) h0
  obtain ⟨a1, rfl, _, _, w1⟩ := open_int Tryz.underlying3 (hval 1 _ v1 rfl rfl) h1
  obtain ⟨a2, rfl, _, _, w2⟩ := open_int Tryz.underlying3 (hval 2 _ v2 rfl rfl) h2
  refine (Go.Mx.DiscoverMajority_c W (i64_of w0) (i64_of w1) (i64_of w2)).mono fun e W' ⟨x, he, hx, hg⟩ => ?_
  subst he hx
  refine ⟨_, rfl, law_post hW' hg (by rw [Tryz.params3]; decide +kernel) rfl rfl (tb := 4) (by kernel_rfl) Tryz.underlying4⟩

theorem dm1 : Rows.discoverMajorityRow.wf (OpenSpec.ofChange Rows.discoverMajoritySpec) = true := by kernel_rfl
theorem dm2 : mapsRowed Tryz.prog = true := by kernel_rfl
theorem dm3 : Tryz.f3.params.all (Tryz.prog.readableRec ·) = true := by kernel_rfl
theorem dm4 : namedTie Tryz.prog Rows.discoverMajorityRow.named Rows.discoverMajoritySpec.vars = true := by kernel_rfl
theorem dm5 : (Rows.discoverMajorityRow.inPlace == Tryz.prog.inPlace 3) = true := by kernel_rfl
theorem dm6 : (Rows.discoverMajorityRow.unfollowed == Tryz.prog.unfollowed 3) = true := by kernel_rfl
theorem dm7 : (Rows.discoverMajorityRow.recurses == Tryz.prog.recurses 3) = true := by kernel_rfl
theorem dm8 : (Rows.discoverMajorityRow.named == Tryz.prog.varsNamed 3) = true := by kernel_rfl
theorem closedDM : joinedFacts Tryz.prog 3 Tryz.f3 Rows.discoverMajoritySpec Rows.discoverMajorityRow = true := by
  unfold joinedFacts
  rw [dm1, laid, dm2, dm3, dm4, dm5, dm6, dm7, dm8]
  kernel_rfl

theorem overDM : Rows.discoverMajorityRow.holds Tryz.pinned (OpenSpec.ofChange Rows.discoverMajoritySpec) :=
  OpenClaim.holds_of_wide 3 Tryz.f3 rfl rfl rfl rfl rfl rfl rfl ⟨rfl, rfl, rfl, rfl, rfl⟩ rfl rfl rfl rfl rfl (by kernel_rfl) Tryz.func3 closedDM
    (of_decide_eq_true (by kernel_rfl)) (by unfold Func.isWrapper; first | (rw [if_pos (by decide +kernel)]; kernel_rfl) | (rw [if_neg (by decide +kernel)]; exact ⟨rfl, rfl⟩))
    (fun os started H enc _ => liftedDM os started H enc)

/-- The statement. -/
theorem discoverMajority_holds : Rows.DiscoverMajoritySaid := overDM
#print axioms discoverMajority_holds
end Go.Proofs.YtmphhkikakblcaaGreat
