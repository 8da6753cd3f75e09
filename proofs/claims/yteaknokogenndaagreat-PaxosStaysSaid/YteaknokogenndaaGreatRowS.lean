/- The statement PaxosStaysSaid: for every input the law returns true, and the arguments read as they did. -/
import Derived.Test.YteaknokogenndaaGreatPostLaw
import Derived.ChangeSlices
import Derived.Test.YteaknokogenndaaGreatLawS
set_option linter.unusedVariables false
namespace Go.Proofs.YteaknokogenndaaGreat
open Go.ChangeShapes Go.WideShapes Go.ChangeAt Go.RowKit Go.Eng

theorem open_list {H : Type} {enc : TypeId × Value → H} {P : Program} {W : World} {r : Reach} {b0 : Nat} {t e : TypeId} {v : Value} {d : DataW H} {ps : List MemPlace} {held : Bool} (ht : P.underlying t = some (.slice e)) (he : P.underlying e = some (.int .i64)) (hc : P.cellsOf e = 1) (hval : Value.okWide P W r b0 t v)
    (hd : DataW.Trod enc P W 0 (fun _ => true) held t v d ps) : ∃ a cap xs, v = .slice a xs.length cap ∧ Rd W a (is xs) ∧ ∀ x ∈ xs, I64 x := by
  obtain ⟨a, len, cap, rfl⟩ := okWide_slice ht hval
  obtain ⟨fuel, hf⟩ := hd
  rcases open_ints ht he hc hf with ⟨h1, _⟩ | ⟨ad, len', cap', zs, h1, h2, h3, h4, h5, h6, h7, h8⟩
  · have h1' : [Value.slice a len cap] = [.slice none 0 0] := h1
    simp at h1'
    obtain ⟨rfl, rfl, rfl⟩ := h1'
    exact ⟨none, 0, [], rfl, .inl rfl, fun x hx => by cases hx⟩
  · have h1' : [Value.slice a len cap] = [.slice (some ad) len' cap'] := h1
    simp at h1'
    obtain ⟨rfl, rfl, rfl⟩ := h1'
    have hle : len ≤ zs.length := by simp at h5; omega
    refine ⟨some ad, cap, zs.take len, by rw [List.length_take, Nat.min_eq_left hle], ?_, fun x hx => i64_of (h8 x (List.mem_of_mem_take hx))⟩
    by_cases h0 : len = 0
    · subst h0; exact .inl rfl
    · have hs : ad.spot = none := by
        have := h7 0 (by omega)
        cases hs : ad.spot with
        | none => rfl
        | some s =>
          exfalso
          unfold World.cell? at this
          have h9 : (ad.add 0).spot.isSome = true := by show ad.spot.isSome = true; rw [hs]; rfl
          simp only [h9, if_true] at this
          split at this <;> simp_all
      refine .inr ⟨ad.block, ad.off, ?_, fun j u hu => ?_⟩
      · cases ad; simp_all
      · have hj : j < (zs.take len).length := by
          have := lt_of_get hu
          simpa [is] using this
        rw [List.length_take] at hj
        have hu2 : u = .int .i64 (zs.getD j 0) := by
          have hj2 : j < zs.length := by omega
          have hj3 : j < len := by omega
          simp [is, hj2, hj3] at hu
          rw [← hu]
          simp [hj2]
        rw [hu2, ← h7 j (by omega)]
        unfold Addr.add
        split
        · rename_i h0; subst h0; cases ad; simp_all
        · rfl

set_option maxRecDepth 100000 in
theorem liftedS (os : Os) (started : os.Started) (H : Type) (enc : TypeId × Value → H) :
    ReturnsInHanded {} Tryz.checked os 5 .any (Rows.paxosStaysSpec.pre6 enc Tryz.prog Tryz.f5 Rows.paxosStaysRow.domain false) (Rows.paxosStaysSpec.post enc Tryz.prog Tryz.f5 false true false false) := by
  refine returnsInHanded_of_change (C := Tryz.checked) ownKn started (by kernel_rfl) Tryz.func5
    (ChangeSpec.witness6 (enc := enc) (C := Tryz.checked) false ⟨#[], #[.slice none 0 0, .slice none 0 0, .int .i64 0], []⟩ 8 (by kernel_rfl) (by kernel_rfl) (by kernel_rfl) (by kernel_rfl)) ?_
  intro W base args ds gs before hval0 hW hcnd _
  have hval : ∀ (j : Nat) t v, Tryz.f5.params[j]? = some t → args[j]? = some v → Value.okWide Tryz.prog W .any base t v := hval0
  have hW' := hW
  obtain ⟨p, q, hA0, hV, rfl, hfz, hnd⟩ := hW
  have hA : DataW.TrodAll enc Tryz.prog W 0 (fun _ => true) true Tryz.f5.params.toList args.toList ds p := hA0
  rw [Tryz.params5] at hA hval
  obtain ⟨v0, v1, v2, d0, d1, d2, p0, p1, p2, rfl, rfl, rfl, h0, h1, h2⟩ := trodAll_three hA
  obtain ⟨rfl, rfl⟩ := trodVars_none hV
  obtain ⟨a0, k0, x0, rfl, r0, w0⟩ := open_list Tryz.underlying34 Tryz.underlying3 (by kernel_rfl) (hval 0 _ v0 rfl rfl) h0
  obtain ⟨a1, k1, x1, rfl, r1, w1⟩ := open_list Tryz.underlying34 Tryz.underlying3 (by kernel_rfl) (hval 1 _ v1 rfl rfl) h1
  obtain ⟨a2, rfl, _, _, w2⟩ := open_int Tryz.underlying3 (hval 2 _ v2 rfl rfl) h2
  refine (PaxosStays_c W r0 r1 w0 w1 (i64_of w2)).mono fun e W' ⟨x, he, hx, hg⟩ => ?_
  subst he hx
  refine ⟨_, rfl, law_post hW' hg (by rw [Tryz.params5]; decide +kernel) rfl rfl (tb := 4) (by kernel_rfl) Tryz.underlying4⟩

theorem overS : Rows.paxosStaysRow.holds Tryz.pinned (OpenSpec.ofChange Rows.paxosStaysSpec) :=
  OpenClaim.holds_of_wide 5 Tryz.f5 rfl rfl rfl rfl rfl rfl rfl ⟨rfl, rfl, rfl, rfl, rfl⟩ rfl rfl rfl rfl rfl (by kernel_rfl) Tryz.func5 (by kernel_rfl)
    (of_decide_eq_true (by kernel_rfl)) (by unfold Func.isWrapper; first | (rw [if_pos (by decide +kernel)]; kernel_rfl) | (rw [if_neg (by decide +kernel)]; exact ⟨rfl, rfl⟩))
    (fun os started H enc _ => liftedS os started H enc)

/-- The statement. -/
theorem paxosStays_holds : Rows.PaxosStaysSaid := overS
#print axioms paxosStays_holds
end Go.Proofs.YteaknokogenndaaGreat
