/- The statement FetchValidSaid: for every input the law returns true, and the arguments read as they did. -/
import Derived.Test.YtihfgcmmljnhnaaGreatOpen2
import Derived.Test.YtihfgcmmljnhnaaGreatFVL
set_option linter.unusedVariables false
namespace Go.Proofs.YtihfgcmmljnhnaaGreat
open Go.ChangeShapes Go.WideShapes Go.ChangeAt Go.RowKit Go.Eng

section
variable {H : Type} {enc : TypeId × Value → H} {W : World} {held : Bool}

set_option maxRecDepth 100000 in
theorem open_fetch {r : Reach} {base : Nat} {v : Value} {d : DataW H} {p : List MemPlace} (hv : Value.okWide Tryz.prog W r base 71 v) (h : DataW.Trod enc Tryz.prog W 0 (fun _ => true) held 71 v d p) :
    ∃ (q : FetchJobR) (vw : Vw) (l : List Int), v = q.val ∧ VIn W q.View vw ∧ Rd W q.Lines (is l) ∧ q.Lines_l = l.length := by
  obtain ⟨cs, rfl, fuel, x, hf⟩ := open_agg Tryz.underlying71 hv h
  obtain ⟨xs, n, _, _, hl, hlen, hfs⟩ := DataW.trod_struct Tryz.underlying71 hf
  have hc : Tryz.prog.cellsOf 71 = 4 := by kernel_rfl
  have hs : Tryz.prog.cellsOf 22 = 1 := by kernel_rfl
  have hw : Tryz.prog.cellsOf TVw = 2 := by kernel_rfl
  obtain ⟨c0, c1, c2, c3, rfl⟩ := len4 (hl.trans hc)
  obtain ⟨_, g0⟩ := fld hfs hlen 0 TI 0 1 rfl cI
  obtain ⟨_, g1⟩ := fld hfs hlen 1 TVw 1 2 rfl hw
  obtain ⟨_, g2⟩ := fld hfs hlen 2 22 3 1 rfl hs
  obtain ⟨n0, e0, _, w0⟩ := DataW.trod_int Tryz.underlying3 g0
  obtain ⟨rv, vw, e1, hvw⟩ := open_view g1
  obtain ⟨ad, cap, l, e2, hcap, hrd, _⟩ := open_listC Tryz.underlying22 Tryz.underlying3 cI g2
  simp [ApiViewR.cells] at e0 e1 e2
  exact ⟨⟨n0, rv, ad, l.length, cap⟩, vw, l, by rw [e0, e1.1, e1.2, e2]; rfl, hvw, hrd, rfl⟩

set_option maxRecDepth 100000 in
theorem open_raw16 {r : Reach} {base : Nat} {v : Value} {d : DataW H} {p : List MemPlace} (hv : Value.okWide Tryz.prog W r base 73 v) (h : DataW.Trod enc Tryz.prog W 0 (fun _ => true) held 73 v d p) :
    ∃ (q : Bodegalaw16RawR) (l : List Int), v = q.val ∧ FRawIn W q l := by
  obtain ⟨cs, rfl, fuel, x, hf⟩ := open_agg Tryz.underlying73 hv h
  obtain ⟨xs, n, _, _, hl, hlen, hfs⟩ := DataW.trod_struct Tryz.underlying73 hf
  have hc : Tryz.prog.cellsOf 73 = 5 := by kernel_rfl
  have hs : Tryz.prog.cellsOf 22 = 1 := by kernel_rfl
  obtain ⟨c0, c1, c2, c3, c4, rfl⟩ := len5 (hl.trans hc)
  obtain ⟨_, g0⟩ := fld hfs hlen 0 TI 0 1 rfl cI
  obtain ⟨_, g1⟩ := fld hfs hlen 1 TI 1 1 rfl cI
  obtain ⟨_, g2⟩ := fld hfs hlen 2 TI 2 1 rfl cI
  obtain ⟨_, g3⟩ := fld hfs hlen 3 TI 3 1 rfl cI
  obtain ⟨_, g4⟩ := fld hfs hlen 4 22 4 1 rfl hs
  obtain ⟨n0, e0, _, w0⟩ := DataW.trod_int Tryz.underlying3 g0
  obtain ⟨n1, e1, _, w1⟩ := DataW.trod_int Tryz.underlying3 g1
  obtain ⟨n2, e2, _, w2⟩ := DataW.trod_int Tryz.underlying3 g2
  obtain ⟨n3, e3, _, w3⟩ := DataW.trod_int Tryz.underlying3 g3
  obtain ⟨ad, cap, l, e4, hcap, hrd, hi⟩ := open_listC Tryz.underlying22 Tryz.underlying3 cI g4
  simp at e0 e1 e2 e3 e4
  exact ⟨⟨n0, n1, n2, n3, ad, l.length, cap⟩, l, by rw [e0, e1, e2, e3, e4]; rfl, ⟨i64_of w0, i64_of w1, i64_of w2, i64_of w3, hrd, rfl, hi⟩⟩
end

set_option maxRecDepth 100000 in
theorem liftedFV (os : Os) (started : os.Started) (H : Type) (enc : TypeId × Value → H) :
    ReturnsInHanded {} Tryz.checked os 7 .any (Rows.fetchValidSpec.pre6 enc Tryz.prog Tryz.f7 Rows.fetchValidRow.domain false) (Rows.fetchValidSpec.post enc Tryz.prog Tryz.f7 false true false false) := by
  refine returnsInHanded_of_change (C := Tryz.checked) ownKn started (by kernel_rfl) Tryz.func7
    (ChangeSpec.witness6 (enc := enc) (C := Tryz.checked) false ⟨#[], #[.agg #[.int .i64 0, .int .i64 0, .slice none 0 0, .slice none 0 0], .agg #[.int .i64 0, .int .i64 0, .int .i64 0, .int .i64 0, .slice none 0 0]], []⟩ 8 (by kernel_rfl) (by kernel_rfl) (by kernel_rfl) (by kernel_rfl)) ?_
  intro W base args ds gs before hval0 hW hcnd _
  have hval : ∀ (j : Nat) t v, Tryz.f7.params[j]? = some t → args[j]? = some v → Value.okWide Tryz.prog W .any base t v := hval0
  have hW' := hW
  obtain ⟨p, q, hA0, hV, rfl, hfz, hnd⟩ := hW
  have hA : DataW.TrodAll enc Tryz.prog W 0 (fun _ => true) true Tryz.f7.params.toList args.toList ds p := hA0
  rw [Tryz.params7] at hA hval
  obtain ⟨v0, v1, d0, d1, p0, p1, rfl, rfl, rfl, h0, h1⟩ := trodAll_two hA
  obtain ⟨rfl, rfl⟩ := trodVars_none hV
  obtain ⟨j, vw, l, rfl, hj, hl, hll⟩ := open_fetch (hval 0 _ v0 rfl rfl) h0
  obtain ⟨r, rl, rfl, hr⟩ := open_raw16 (hval 1 _ v1 rfl rfl) h1
  refine (FetchValid_c W hj hl hll hr).mono fun e W' ⟨x, he, hx, hg⟩ => ?_
  subst he hx
  refine ⟨_, rfl, law_post hW' hg (by rw [Tryz.params7]; decide +kernel) rfl rfl (tb := 4) (by kernel_rfl) Tryz.underlying4⟩

theorem fv1 : Rows.fetchValidRow.wf (OpenSpec.ofChange Rows.fetchValidSpec) = true := by kernel_rfl
theorem fv2 : mapsRowed Tryz.prog = true := by kernel_rfl
theorem fv3 : Tryz.f7.params.all (Tryz.prog.readableRec ·) = true := by kernel_rfl
theorem fv4 : namedTie Tryz.prog Rows.fetchValidRow.named Rows.fetchValidSpec.vars = true := by kernel_rfl
theorem fv5 : (Rows.fetchValidRow.inPlace == Tryz.prog.inPlace 7) = true := by kernel_rfl
theorem fv6 : (Rows.fetchValidRow.unfollowed == Tryz.prog.unfollowed 7) = true := by kernel_rfl
theorem fv7 : (Rows.fetchValidRow.recurses == Tryz.prog.recurses 7) = true := by kernel_rfl
theorem fv8 : (Rows.fetchValidRow.named == Tryz.prog.varsNamed 7) = true := by kernel_rfl
theorem closedFV : joinedFacts Tryz.prog 7 Tryz.f7 Rows.fetchValidSpec Rows.fetchValidRow = true := by
  unfold joinedFacts
  rw [fv1, laid, fv2, fv3, fv4, fv5, fv6, fv7, fv8]
  kernel_rfl

theorem overFV : Rows.fetchValidRow.holds Tryz.pinned (OpenSpec.ofChange Rows.fetchValidSpec) :=
  OpenClaim.holds_of_wide 7 Tryz.f7 rfl rfl rfl rfl rfl rfl rfl ⟨rfl, rfl, rfl, rfl, rfl⟩ rfl rfl rfl rfl rfl (by kernel_rfl) Tryz.func7 closedFV
    (of_decide_eq_true (by kernel_rfl)) (by unfold Func.isWrapper; first | (rw [if_pos (by decide +kernel)]; kernel_rfl) | (rw [if_neg (by decide +kernel)]; exact ⟨rfl, rfl⟩))
    (fun os started H enc _ => liftedFV os started H enc)

/-- The statement. -/
theorem fetchValid_holds : Rows.FetchValidSaid := overFV
#print axioms fetchValid_holds
end Go.Proofs.YtihfgcmmljnhnaaGreat
