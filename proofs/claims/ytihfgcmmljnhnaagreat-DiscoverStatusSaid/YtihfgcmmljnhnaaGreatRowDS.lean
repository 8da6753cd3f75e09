/- The statement DiscoverStatusSaid: for every input the law returns true, and the arguments read as they did. -/
import Derived.Test.YtihfgcmmljnhnaaGreatOpen2
import Derived.Test.YtihfgcmmljnhnaaGreatDSL
set_option linter.unusedVariables false
namespace Go.Proofs.YtihfgcmmljnhnaaGreat
open Go.ChangeShapes Go.WideShapes Go.ChangeAt Go.RowKit Go.Eng

set_option maxRecDepth 100000 in
theorem liftedDS (os : Os) (started : os.Started) (H : Type) (enc : TypeId × Value → H) :
    ReturnsInHanded {} Tryz.checked os 3 .any (Rows.discoverStatusSpec.pre6 enc Tryz.prog Tryz.f3 Rows.discoverStatusRow.domain false) (Rows.discoverStatusSpec.post enc Tryz.prog Tryz.f3 false true false false) := by
  refine returnsInHanded_of_change (C := Tryz.checked) ownKn started (by kernel_rfl) Tryz.func3
    (ChangeSpec.witness6 (enc := enc) (C := Tryz.checked) false ⟨#[], #[.int .i64 0, .int .i64 0, .int .i64 0, .slice none 0 0, .slice none 0 0, .agg #[.int .i64 0, .slice none 0 0], .slice none 0 0, .slice none 0 0], []⟩ 8 (by kernel_rfl) (by kernel_rfl) (by kernel_rfl) (by kernel_rfl)) ?_
  intro W base args ds gs before hval0 hW hcnd _
  have hval : ∀ (j : Nat) t v, Tryz.f3.params[j]? = some t → args[j]? = some v → Value.okWide Tryz.prog W .any base t v := hval0
  have hW' := hW
  obtain ⟨p, q, hA0, hV, rfl, hfz, hnd⟩ := hW
  have hA : DataW.TrodAll enc Tryz.prog W 0 (fun _ => true) true Tryz.f3.params.toList args.toList ds p := hA0
  rw [Tryz.params3] at hA hval
  obtain ⟨v0, v1, v2, v3, v4, v5, v6, v7, d0, d1, d2, d3, d4, d5, d6, d7, p0, p1, p2, p3, p4, p5, p6, p7, hargs, rfl, h0, h1, h2, h3, h4, h5, h6, h7⟩ := trodAll_eight hA
  obtain rfl : args = #[v0, v1, v2, v3, v4, v5, v6, v7] := by apply Array.ext'; rw [hargs]
  obtain ⟨rfl, rfl⟩ := trodVars_none hV
  obtain ⟨a0, rfl, _, _, w0⟩ := open_int Tryz.underlying3 (hval 0 _ v0 rfl rfl) h0
  obtain ⟨a1, rfl, _, _, w1⟩ := open_int Tryz.underlying3 (hval 1 _ v1 rfl rfl) h1
  obtain ⟨a2, rfl, _, _, w2⟩ := open_int Tryz.underlying3 (hval 2 _ v2 rfl rfl) h2
  obtain ⟨a3, c3, l3, rfl, r3, i3⟩ := open_list Tryz.underlying22 Tryz.underlying3 cI (hval 3 _ v3 rfl rfl) h3
  obtain ⟨a4, c4, l4, rfl, r4, i4⟩ := open_list Tryz.underlying22 Tryz.underlying3 cI (hval 4 _ v4 rfl rfl) h4
  obtain ⟨cs, rfl, fuel, x5, hf5⟩ := open_agg Tryz.underlying25 (hval 5 _ v5 rfl rfl) h5
  obtain ⟨rv, vw, rfl, hvw⟩ := open_view hf5
  obtain ⟨a6, c6, l6, rfl, r6, i6⟩ := open_list Tryz.underlying22 Tryz.underlying3 cI (hval 6 _ v6 rfl rfl) h6
  obtain ⟨a7, c7, l7, rfl, r7, i7⟩ := open_words Tryz.underlying26 Tryz.underlying33 (by kernel_rfl) (hval 7 _ v7 rfl rfl) h7
  refine (DiscoverStatus_c W (i64_of w0) (i64_of w1) (i64_of w2) r3 rfl i3 r4 rfl i4 hvw r6 rfl r7 rfl).mono fun e W' ⟨x, he, hx, hg⟩ => ?_
  subst he hx
  refine ⟨_, rfl, law_post hW' hg (by rw [Tryz.params3]; decide +kernel) rfl rfl (tb := 4) (by kernel_rfl) Tryz.underlying4⟩

theorem ds1 : Rows.discoverStatusRow.wf (OpenSpec.ofChange Rows.discoverStatusSpec) = true := by kernel_rfl
theorem ds2 : mapsRowed Tryz.prog = true := by kernel_rfl
theorem ds3 : Tryz.f3.params.all (Tryz.prog.readableRec ·) = true := by kernel_rfl
theorem ds4 : namedTie Tryz.prog Rows.discoverStatusRow.named Rows.discoverStatusSpec.vars = true := by kernel_rfl
theorem ds5 : (Rows.discoverStatusRow.inPlace == Tryz.prog.inPlace 3) = true := by kernel_rfl
theorem ds6 : (Rows.discoverStatusRow.unfollowed == Tryz.prog.unfollowed 3) = true := by kernel_rfl
theorem ds7 : (Rows.discoverStatusRow.recurses == Tryz.prog.recurses 3) = true := by kernel_rfl
theorem ds8 : (Rows.discoverStatusRow.named == Tryz.prog.varsNamed 3) = true := by kernel_rfl
theorem closedDS : joinedFacts Tryz.prog 3 Tryz.f3 Rows.discoverStatusSpec Rows.discoverStatusRow = true := by
  unfold joinedFacts
  rw [ds1, laid, ds2, ds3, ds4, ds5, ds6, ds7, ds8]
  kernel_rfl

theorem overDS : Rows.discoverStatusRow.holds Tryz.pinned (OpenSpec.ofChange Rows.discoverStatusSpec) :=
  OpenClaim.holds_of_wide 3 Tryz.f3 rfl rfl rfl rfl rfl rfl rfl ⟨rfl, rfl, rfl, rfl, rfl⟩ rfl rfl rfl rfl rfl (by kernel_rfl) Tryz.func3 closedDS
    (of_decide_eq_true (by kernel_rfl)) (by unfold Func.isWrapper; first | (rw [if_pos (by decide +kernel)]; kernel_rfl) | (rw [if_neg (by decide +kernel)]; exact ⟨rfl, rfl⟩))
    (fun os started H enc _ => liftedDS os started H enc)

/-- The statement. -/
theorem discoverStatus_holds : Rows.DiscoverStatusSaid := overDS
#print axioms discoverStatus_holds
end Go.Proofs.YtihfgcmmljnhnaaGreat
