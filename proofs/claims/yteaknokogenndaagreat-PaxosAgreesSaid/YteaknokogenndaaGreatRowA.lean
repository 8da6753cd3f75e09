/- The statement PaxosAgreesSaid: for every input the law returns true, and the arguments read as they did. -/
import Derived.Test.YteaknokogenndaaGreatOpen
import Derived.Test.YteaknokogenndaaGreatLawA
set_option linter.unusedVariables false
namespace Go.Proofs.YteaknokogenndaaGreat
open Go.ChangeShapes Go.WideShapes Go.ChangeAt Go.RowKit Go.Eng

set_option maxRecDepth 100000 in
theorem open_event {H : Type} {enc : TypeId × Value → H} {W : World} {held : Bool} {r : List Value} (hl : r.length = 3) {fuel : Nat} {x : DataW H × List MemPlace} (h : DataW.trod enc Tryz.prog W 0 (fun _ => true) held fuel 69 r = some x) : ∃ e : Event, r = e.cells ∧ e.Ok := by
  obtain ⟨xs, n, _, _, _, hlen, hfs⟩ := DataW.trod_struct Tryz.underlying69 h
  have hlen : xs.length = 3 := hlen
  have hi : Tryz.prog.cellsOf 3 = 1 := by kernel_rfl
  have g0 := hfs 0 _ rfl
  have g1 := hfs 1 _ rfl
  have g2 := hfs 2 _ rfl
  rw [List.getElem?_eq_getElem (by omega)] at g0 g1 g2
  obtain ⟨n0, e0, w0⟩ := field_int Tryz.underlying3 hi g0
  obtain ⟨n1, e1, w1⟩ := field_int Tryz.underlying3 hi g1
  obtain ⟨n2, e2, w2⟩ := field_int Tryz.underlying3 hi g2
  refine ⟨⟨n0, n1, n2⟩, ?_, ⟨i64_of w0, i64_of w1, i64_of w2⟩⟩
  apply List.ext_getElem?
  intro i
  have e0 : r[0]? = some (.int .i64 n0) := e0
  have e1 : r[1]? = some (.int .i64 n1) := e1
  have e2 : r[2]? = some (.int .i64 n2) := e2
  rcases i with _ | _ | _ | i
  · exact e0
  · exact e1
  · exact e2
  · rw [List.getElem?_eq_none (by omega), List.getElem?_eq_none (by simp [Event.cells])]

set_option maxRecDepth 100000 in
theorem liftedA (os : Os) (started : os.Started) (H : Type) (enc : TypeId × Value → H) :
    ReturnsInHanded {} Tryz.checked os 4 .any (Rows.paxosAgreesSpec.pre6 enc Tryz.prog Tryz.f4 Rows.paxosAgreesRow.domain false) (Rows.paxosAgreesSpec.post enc Tryz.prog Tryz.f4 false true false false) := by
  refine returnsInHanded_of_change (C := Tryz.checked) ownKn started (by kernel_rfl) Tryz.func4
    (ChangeSpec.witness6 (enc := enc) (C := Tryz.checked) false ⟨#[], #[.slice none 0 0, .int .i64 0, .slice none 0 0, .slice none 0 0], []⟩ 8 (by kernel_rfl) (by kernel_rfl) (by kernel_rfl) (by kernel_rfl)) ?_
  intro W base args ds gs before hval0 hW hcnd _
  have hval : ∀ (j : Nat) t v, Tryz.f4.params[j]? = some t → args[j]? = some v → Value.okWide Tryz.prog W .any base t v := hval0
  have hW' := hW
  obtain ⟨p, q, hA0, hV, rfl, hfz, hnd⟩ := hW
  have hA : DataW.TrodAll enc Tryz.prog W 0 (fun _ => true) true Tryz.f4.params.toList args.toList ds p := hA0
  rw [Tryz.params4] at hA hval
  obtain ⟨v0, v1, v2, v3, d0, d1, d2, d3, p0, p1, p2, p3, rfl, rfl, rfl, h0, h1, h2, h3⟩ := trodAll_four hA
  obtain ⟨rfl, rfl⟩ := trodVars_none hV
  obtain ⟨a0, k0, x0, rfl, r0, w0⟩ := open_list Tryz.underlying34 Tryz.underlying3 (by kernel_rfl) (hval 0 _ v0 rfl rfl) h0
  obtain ⟨a1, rfl, _, _, w1⟩ := open_int Tryz.underlying3 (hval 1 _ v1 rfl rfl) h1
  obtain ⟨a2, k2, x2, rfl, r2, w2⟩ := open_list Tryz.underlying34 Tryz.underlying3 (by kernel_rfl) (hval 2 _ v2 rfl rfl) h2
  obtain ⟨a3, k3, rows, rfl, r3, w3⟩ := open_rows Tryz.underlying35 (show Tryz.prog.cellsOf _ = 3 by kernel_rfl) (by omega) (hval 3 _ v3 rfl rfl) h3
  obtain ⟨es, rfl, w5⟩ := rows_of (cells := Event.cells) (Ok := Event.Ok) fun r hr => by
    obtain ⟨hl, fuel, x, hx⟩ := w3 r hr
    exact open_event hl hx
  rw [List.length_map] at hval hW' hA ⊢
  refine (PaxosAgrees_c W r0 r2 r3 w0 (i64_of w1) w2 w5).mono fun e W' ⟨x, he, hx, hg⟩ => ?_
  subst he hx
  refine ⟨_, rfl, law_post hW' hg (by rw [Tryz.params4]; decide +kernel) rfl rfl (tb := 4) (by kernel_rfl) Tryz.underlying4⟩

theorem overA : Rows.paxosAgreesRow.holds Tryz.pinned (OpenSpec.ofChange Rows.paxosAgreesSpec) :=
  OpenClaim.holds_of_wide 4 Tryz.f4 rfl rfl rfl rfl rfl rfl rfl ⟨rfl, rfl, rfl, rfl, rfl⟩ rfl rfl rfl rfl rfl (by kernel_rfl) Tryz.func4 (by kernel_rfl)
    (of_decide_eq_true (by kernel_rfl)) (by unfold Func.isWrapper; first | (rw [if_pos (by decide +kernel)]; kernel_rfl) | (rw [if_neg (by decide +kernel)]; exact ⟨rfl, rfl⟩))
    (fun os started H enc _ => liftedA os started H enc)

/-- The statement. -/
theorem paxosAgrees_holds : Rows.PaxosAgreesSaid := overA
#print axioms paxosAgrees_holds
end Go.Proofs.YteaknokogenndaaGreat
