/- The statement PaxosMinoritySaid: for every input the law returns true, and the arguments read as they did. -/
import Derived.Test.YteaknokogenndaaGreatPostLaw
import Derived.Test.YteaknokogenndaaGreatLawM
set_option linter.unusedVariables false
namespace Go.Proofs.YteaknokogenndaaGreat
open Go.ChangeShapes Go.WideShapes Go.ChangeAt Go.RowKit

set_option maxRecDepth 100000 in
theorem liftedM (os : Os) (started : os.Started) (H : Type) (enc : TypeId × Value → H) :
    ReturnsInHanded {} Tryz.checked os 6 .any (Rows.paxosMinoritySpec.pre6 enc Tryz.prog Tryz.f6 Rows.paxosMinorityRow.domain false) (Rows.paxosMinoritySpec.post enc Tryz.prog Tryz.f6 false true false false) := by
  refine returnsInHanded_of_change (C := Tryz.checked) ownKn started (by kernel_rfl) Tryz.func6
    (ChangeSpec.witness6 (enc := enc) (C := Tryz.checked) false ⟨#[], #[.int .i64 0, .int .i64 0, .int .i64 0], []⟩ 8 (by kernel_rfl) (by kernel_rfl) (by kernel_rfl) (by kernel_rfl)) ?_
  intro W base args ds gs before hval0 hW hcnd _
  have hval : ∀ (j : Nat) t v, Tryz.f6.params[j]? = some t → args[j]? = some v → Value.okWide Tryz.prog W .any base t v := hval0
  have hW' := hW
  obtain ⟨p, q, hA0, hV, rfl, hfz, hnd⟩ := hW
  have hA : DataW.TrodAll enc Tryz.prog W 0 (fun _ => true) true Tryz.f6.params.toList args.toList ds p := hA0
  rw [Tryz.params6] at hA hval
  obtain ⟨v0, v1, v2, d0, d1, d2, p0, p1, p2, rfl, rfl, rfl, h0, h1, h2⟩ := trodAll_three hA
  obtain ⟨rfl, rfl⟩ := trodVars_none hV
  obtain ⟨a0, rfl, _, _, w0⟩ := open_int Tryz.underlying3 (hval 0 _ v0 rfl rfl) h0
  obtain ⟨a1, rfl, _, _, w1⟩ := open_int Tryz.underlying3 (hval 1 _ v1 rfl rfl) h1
  obtain ⟨a2, rfl, _, _, w2⟩ := open_int Tryz.underlying3 (hval 2 _ v2 rfl rfl) h2
  refine (PaxosMinority_c W (i64_of w0) (i64_of w1) (i64_of w2)).mono fun e W' ⟨x, he, hx, hg⟩ => ?_
  subst he hx
  refine ⟨_, rfl, law_post hW' hg (by rw [Tryz.params6]; decide +kernel) rfl rfl (tb := 4) (by kernel_rfl) Tryz.underlying4⟩

theorem overM : Rows.paxosMinorityRow.holds Tryz.pinned (OpenSpec.ofChange Rows.paxosMinoritySpec) :=
  OpenClaim.holds_of_wide 6 Tryz.f6 rfl rfl rfl rfl rfl rfl rfl ⟨rfl, rfl, rfl, rfl, rfl⟩ rfl rfl rfl rfl rfl (by kernel_rfl) Tryz.func6 (by kernel_rfl)
    (of_decide_eq_true (by kernel_rfl)) (by unfold Func.isWrapper; first | (rw [if_pos (by decide +kernel)]; kernel_rfl) | (rw [if_neg (by decide +kernel)]; exact ⟨rfl, rfl⟩))
    (fun os started H enc _ => liftedM os started H enc)

/-- The statement. -/
theorem paxosMinority_holds : Rows.PaxosMinoritySaid := overM
#print axioms paxosMinority_holds
end Go.Proofs.YteaknokogenndaaGreat
