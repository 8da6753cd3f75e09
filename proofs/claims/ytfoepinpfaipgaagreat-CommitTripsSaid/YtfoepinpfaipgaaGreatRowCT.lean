/- The statement CommitTripsSaid: for every input the law returns true. -/
import Derived.Test.YtfoepinpfaipgaaGreatPostLaw
import Derived.Test.YtfoepinpfaipgaaGreatCTL
set_option linter.unusedVariables false
namespace Go.Proofs.YtfoepinpfaipgaaGreat
open Go.ChangeShapes Go.WideShapes Go.ChangeAt Go.RowKit Go.Eng

set_option maxRecDepth 100000 in
theorem liftedCT (os : Os) (started : os.Started) (H : Type) (enc : TypeId × Value → H) :
    ReturnsInHanded {} Tryz.checked os 4 .any (Rows.commitTripsSpec.pre6 enc Tryz.prog Tryz.f4 Rows.commitTripsRow.domain false) (Rows.commitTripsSpec.post enc Tryz.prog Tryz.f4 false true false false) := by
  refine returnsInHanded_of_change (C := Tryz.checked) ownKn started (by kernel_rfl) Tryz.func4
    (ChangeSpec.witness6 (enc := enc) (C := Tryz.checked) false ⟨#[], #[.int .i64 0, .int .i64 0, .int .i64 0], []⟩ 8 (by kernel_rfl) (by kernel_rfl) (by kernel_rfl) (by kernel_rfl)) ?_
  intro W base args ds gs before hval0 hW hcnd _
  have hval : ∀ (j : Nat) t v, Tryz.f4.params[j]? = some t → args[j]? = some v → Value.okWide Tryz.prog W .any base t v := hval0
  have hW' := hW
  obtain ⟨p, q, hA0, hV, rfl, hfz, hnd⟩ := hW
  have hA : DataW.TrodAll enc Tryz.prog W 0 (fun _ => true) true Tryz.f4.params.toList args.toList ds p := hA0
  rw [Tryz.params4] at hA hval
  obtain ⟨v0, v1, v2, d0, d1, d2, p0, p1, p2, rfl, rfl, rfl, h0, h1, h2⟩ := trodAll_three hA
  obtain ⟨rfl, rfl⟩ := trodVars_none hV
  obtain ⟨a0, rfl, _, _, w0⟩ := open_int Tryz.underlying3 (hval 0 _ v0 rfl rfl) h0
  obtain ⟨a1, rfl, _, _, w1⟩ := open_int Tryz.underlying3 (hval 1 _ v1 rfl rfl) h1
  obtain ⟨a2, rfl, _, _, w2⟩ := open_int Tryz.underlying3 (hval 2 _ v2 rfl rfl) h2
  refine (Go.Mx.CommitTrips_c W (i64_of w0) (i64_of w1) (i64_of w2)).mono fun e W' ⟨x, he, hx, hg⟩ => ?_
  subst he hx
  refine ⟨_, rfl, law_post hW' hg (by rw [Tryz.params4]; decide +kernel) rfl rfl (tb := 4) (by kernel_rfl) Tryz.underlying4⟩

theorem ct1 : Rows.commitTripsRow.wf (OpenSpec.ofChange Rows.commitTripsSpec) = true := by kernel_rfl
theorem ct2 : mapsRowed Tryz.prog = true := by kernel_rfl
theorem ct3 : Tryz.f4.params.all (Tryz.prog.readableRec ·) = true := by kernel_rfl
theorem ct4 : namedTie Tryz.prog Rows.commitTripsRow.named Rows.commitTripsSpec.vars = true := by kernel_rfl
theorem ct5 : (Rows.commitTripsRow.inPlace == Tryz.prog.inPlace 4) = true := by kernel_rfl
theorem ct6 : (Rows.commitTripsRow.unfollowed == Tryz.prog.unfollowed 4) = true := by kernel_rfl
theorem ct7 : (Rows.commitTripsRow.recurses == Tryz.prog.recurses 4) = true := by kernel_rfl
theorem ct8 : (Rows.commitTripsRow.named == Tryz.prog.varsNamed 4) = true := by kernel_rfl
theorem closedCT : joinedFacts Tryz.prog 4 Tryz.f4 Rows.commitTripsSpec Rows.commitTripsRow = true := by
  unfold joinedFacts
  rw [ct1, laid, ct2, ct3, ct4, ct5, ct6, ct7, ct8]
  kernel_rfl

theorem overCT : Rows.commitTripsRow.holds Tryz.pinned (OpenSpec.ofChange Rows.commitTripsSpec) :=
  OpenClaim.holds_of_wide 4 Tryz.f4 rfl rfl rfl rfl rfl rfl rfl ⟨rfl, rfl, rfl, rfl, rfl⟩ rfl rfl rfl rfl rfl (by kernel_rfl) Tryz.func4 closedCT
    (of_decide_eq_true (by kernel_rfl)) (by unfold Func.isWrapper; first | (rw [if_pos (by decide +kernel)]; kernel_rfl) | (rw [if_neg (by decide +kernel)]; exact ⟨rfl, rfl⟩))
    (fun os started H enc _ => liftedCT os started H enc)

/-- The statement. -/
theorem commitTrips_holds : Rows.CommitTripsSaid := overCT
#print axioms commitTrips_holds
end Go.Proofs.YtfoepinpfaipgaaGreat
