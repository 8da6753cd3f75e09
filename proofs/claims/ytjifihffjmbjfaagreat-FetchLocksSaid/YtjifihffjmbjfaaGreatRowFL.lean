/- The statement FetchLocksSaid: for every input the law returns true, and the arguments read as they did. -/
import Derived.Test.YtjifihffjmbjfaaGreatOpen3
import Derived.Test.YtjifihffjmbjfaaGreatFLL
set_option linter.unusedVariables false
namespace Go.Proofs.YtjifihffjmbjfaaGreat
open Go.ChangeShapes Go.WideShapes Go.ChangeAt Go.RowKit Go.Eng

set_option maxRecDepth 100000 in
theorem liftedFL (os : Os) (started : os.Started) (H : Type) (enc : TypeId × Value → H) :
    ReturnsInHanded {} Tryz.checked os 8 .any (Rows.fetchLocksSpec.pre6 enc Tryz.prog Tryz.f8 Rows.fetchLocksRow.domain false) (Rows.fetchLocksSpec.post enc Tryz.prog Tryz.f8 false true false false) := by
  refine returnsInHanded_of_change (C := Tryz.checked) ownKn started (by kernel_rfl) Tryz.func8
    (ChangeSpec.witness6 (enc := enc) (C := Tryz.checked) false ⟨#[], #[.slice none 0 0, .slice none 0 0], []⟩ 8 (by kernel_rfl) (by kernel_rfl) (by kernel_rfl) (by kernel_rfl)) ?_
  intro W base args ds gs before hval0 hW hcnd _
  have hval : ∀ (j : Nat) t v, Tryz.f8.params[j]? = some t → args[j]? = some v → Value.okWide Tryz.prog W .any base t v := hval0
  have hW' := hW
  obtain ⟨p, q, hA0, hV, rfl, hfz, hnd⟩ := hW
  have hA : DataW.TrodAll enc Tryz.prog W 0 (fun _ => true) true Tryz.f8.params.toList args.toList ds p := hA0
  rw [Tryz.params8] at hA hval
  obtain ⟨v0, v1, d0, d1, p0, p1, rfl, rfl, rfl, h0, h1⟩ := trodAll_two hA
  obtain ⟨rfl, rfl⟩ := trodVars_none hV
  obtain ⟨a, c, L, rfl, hL, hu⟩ := open_pagesT (hval 0 _ v0 rfl rfl) h0
  obtain ⟨b, d, os1, rfl, hO, hoi⟩ := open_list Tryz.underlying33 Tryz.underlying3 cI (hval 1 _ v1 rfl rfl) h1
  refine (FetchLocks_c W hL hu hO hoi).mono fun e W' ⟨x, he, hx, hg⟩ => ?_
  subst he hx
  refine ⟨_, rfl, law_post hW' hg (by rw [Tryz.params8]; decide +kernel) rfl rfl (tb := 4) (by kernel_rfl) Tryz.underlying4⟩

theorem fl1 : Rows.fetchLocksRow.wf (OpenSpec.ofChange Rows.fetchLocksSpec) = true := by kernel_rfl
theorem fl2 : mapsRowed Tryz.prog = true := by kernel_rfl
theorem fl3 : Tryz.f8.params.all (Tryz.prog.readableRec ·) = true := by kernel_rfl
theorem fl4 : namedTie Tryz.prog Rows.fetchLocksRow.named Rows.fetchLocksSpec.vars = true := by kernel_rfl
theorem fl5 : (Rows.fetchLocksRow.inPlace == Tryz.prog.inPlace 8) = true := by kernel_rfl
theorem fl6 : (Rows.fetchLocksRow.unfollowed == Tryz.prog.unfollowed 8) = true := by kernel_rfl
theorem fl7 : (Rows.fetchLocksRow.recurses == Tryz.prog.recurses 8) = true := by kernel_rfl
theorem fl8 : (Rows.fetchLocksRow.named == Tryz.prog.varsNamed 8) = true := by kernel_rfl
theorem closedFL : joinedFacts Tryz.prog 8 Tryz.f8 Rows.fetchLocksSpec Rows.fetchLocksRow = true := by
  unfold joinedFacts
  rw [fl1, laid, fl2, fl3, fl4, fl5, fl6, fl7, fl8]
  kernel_rfl

theorem overFL : Rows.fetchLocksRow.holds Tryz.pinned (OpenSpec.ofChange Rows.fetchLocksSpec) :=
  OpenClaim.holds_of_wide 8 Tryz.f8 rfl rfl rfl rfl rfl rfl rfl ⟨rfl, rfl, rfl, rfl, rfl⟩ rfl rfl rfl rfl rfl (by kernel_rfl) Tryz.func8 closedFL
    (of_decide_eq_true (by kernel_rfl)) (by unfold Func.isWrapper; first | (rw [if_pos (by decide +kernel)]; kernel_rfl) | (rw [if_neg (by decide +kernel)]; exact ⟨rfl, rfl⟩))
    (fun os started H enc _ => liftedFL os started H enc)

/-- The statement. -/
theorem fetchLocks_holds : Rows.FetchLocksSaid := overFL
#print axioms fetchLocks_holds
end Go.Proofs.YtjifihffjmbjfaaGreat
