/- The statement CommitValidSaid: for every input the law returns true, and the arguments read as they did. -/
import Derived.Test.YtjifihffjmbjfaaGreatOpen3
import Derived.Test.YtjifihffjmbjfaaGreatCVL
set_option linter.unusedVariables false
namespace Go.Proofs.YtjifihffjmbjfaaGreat
open Go.ChangeShapes Go.WideShapes Go.ChangeAt Go.RowKit Go.Eng

section
variable {H : Type} {enc : TypeId × Value → H} {W : World} {held : Bool}

set_option maxRecDepth 100000 in
theorem open_commit {r : Reach} {base : Nat} {v : Value} {d : DataW H} {p : List MemPlace} (hv : Value.okWide Tryz.prog W r base 60 v) (h : DataW.Trod enc Tryz.prog W 0 (fun _ => true) held 60 v d p) :
    ∃ (q : CommitJobR) (vw : Vw) (X : List ApiSeenR) (Y : List ApiPageR), v = q.val ∧ VIn W q.View vw ∧ Rd W q.Reads (snrows X).flatten ∧ q.Reads_l = X.length ∧ Rd W q.Writes (pgrows Y).flatten ∧ q.Writes_l = Y.length ∧ ∀ x ∈ Y, U64 x.Head := by
  obtain ⟨cs, rfl, fuel, x, hf⟩ := open_agg Tryz.underlying60 hv h
  obtain ⟨xs, n, _, _, hl, hlen, hfs⟩ := DataW.trod_struct Tryz.underlying60 hf
  have hc : Tryz.prog.cellsOf 60 = 7 := by kernel_rfl
  have hs : Tryz.prog.cellsOf 57 = 1 := by kernel_rfl
  have hs2 : Tryz.prog.cellsOf 58 = 1 := by kernel_rfl
  have hw : Tryz.prog.cellsOf TVw = 2 := by kernel_rfl
  obtain ⟨c0, c1, c2, c3, c4, c5, c6, rfl⟩ := len7 (hl.trans hc)
  obtain ⟨_, g0⟩ := fld hfs hlen 0 TI 0 1 rfl cI
  obtain ⟨_, g1⟩ := fld hfs hlen 1 TI 1 1 rfl cI
  obtain ⟨_, g2⟩ := fld hfs hlen 2 TI 2 1 rfl cI
  obtain ⟨_, g3⟩ := fld hfs hlen 3 TVw 3 2 rfl hw
  obtain ⟨_, g4⟩ := fld hfs hlen 4 57 5 1 rfl hs
  obtain ⟨_, g5⟩ := fld hfs hlen 5 58 6 1 rfl hs2
  obtain ⟨n0, e0, _, w0⟩ := DataW.trod_int Tryz.underlying3 g0
  obtain ⟨n1, e1, _, w1⟩ := DataW.trod_int Tryz.underlying3 g1
  obtain ⟨n2, e2, _, w2⟩ := DataW.trod_int Tryz.underlying3 g2
  obtain ⟨rv, vw, e3, hvw⟩ := open_view g3
  obtain ⟨a4, k4, X, e4, _, hX, _⟩ := open_seens g4
  obtain ⟨a5, k5, Y, e5, _, hY, hYu⟩ := open_pages g5
  simp [ApiViewR.cells] at e0 e1 e2 e3 e4 e5
  exact ⟨⟨n0, n1, n2, rv, a4, X.length, k4, a5, Y.length, k5⟩, vw, X, Y, by rw [e0, e1, e2, e3.1, e3.2, e4, e5]; rfl, hvw, hX, rfl, hY, rfl, hYu⟩

set_option maxRecDepth 100000 in
theorem open_raw12 {r : Reach} {base : Nat} {v : Value} {d : DataW H} {p : List MemPlace} (hv : Value.okWide Tryz.prog W r base 62 v) (h : DataW.Trod enc Tryz.prog W 0 (fun _ => true) held 62 v d p) :
    ∃ (q : Bodegalaw12RawR) (rl wl : List Int), v = q.val ∧ CRawIn W q rl wl := by
  obtain ⟨cs, rfl, fuel, x, hf⟩ := open_agg Tryz.underlying62 hv h
  obtain ⟨xs, n, _, _, hl, hlen, hfs⟩ := DataW.trod_struct Tryz.underlying62 hf
  have hc : Tryz.prog.cellsOf 62 = 8 := by kernel_rfl
  have hs : Tryz.prog.cellsOf 33 = 1 := by kernel_rfl
  obtain ⟨c0, c1, c2, c3, c4, c5, c6, c7, rfl⟩ := len8 (hl.trans hc)
  obtain ⟨_, g0⟩ := fld hfs hlen 0 TI 0 1 rfl cI
  obtain ⟨_, g1⟩ := fld hfs hlen 1 TI 1 1 rfl cI
  obtain ⟨_, g2⟩ := fld hfs hlen 2 TI 2 1 rfl cI
  obtain ⟨_, g3⟩ := fld hfs hlen 3 TI 3 1 rfl cI
  obtain ⟨_, g4⟩ := fld hfs hlen 4 TI 4 1 rfl cI
  obtain ⟨_, g5⟩ := fld hfs hlen 5 TI 5 1 rfl cI
  obtain ⟨_, g6⟩ := fld hfs hlen 6 33 6 1 rfl hs
  obtain ⟨_, g7⟩ := fld hfs hlen 7 33 7 1 rfl hs
  obtain ⟨n0, e0, _, w0⟩ := DataW.trod_int Tryz.underlying3 g0
  obtain ⟨n1, e1, _, w1⟩ := DataW.trod_int Tryz.underlying3 g1
  obtain ⟨n2, e2, _, w2⟩ := DataW.trod_int Tryz.underlying3 g2
  obtain ⟨n3, e3, _, w3⟩ := DataW.trod_int Tryz.underlying3 g3
  obtain ⟨n4, e4, _, w4⟩ := DataW.trod_int Tryz.underlying3 g4
  obtain ⟨n5, e5, _, w5⟩ := DataW.trod_int Tryz.underlying3 g5
  obtain ⟨a6, k6, l6, e6, hc6, hrd6, hi6⟩ := open_listC Tryz.underlying33 Tryz.underlying3 cI g6
  obtain ⟨a7, k7, l7, e7, hc7, hrd7, hi7⟩ := open_listC Tryz.underlying33 Tryz.underlying3 cI g7
  simp at e0 e1 e2 e3 e4 e5 e6 e7
  exact ⟨⟨n0, n1, n2, n3, n4, n5, a6, l6.length, k6, a7, l7.length, k7⟩, l6, l7, by rw [e0, e1, e2, e3, e4, e5, e6, e7]; rfl, ⟨i64_of w0, i64_of w1, i64_of w2, i64_of w3, i64_of w4, i64_of w5, hrd6, rfl, hi6, hrd7, rfl, hi7⟩⟩
end

set_option maxRecDepth 100000 in
theorem liftedCV (os : Os) (started : os.Started) (H : Type) (enc : TypeId × Value → H) :
    ReturnsInHanded {} Tryz.checked os 5 .any (Rows.commitValidSpec.pre6 enc Tryz.prog Tryz.f5 Rows.commitValidRow.domain false) (Rows.commitValidSpec.post enc Tryz.prog Tryz.f5 false true false false) := by
  refine returnsInHanded_of_change (C := Tryz.checked) ownKn started (by kernel_rfl) Tryz.func5
    (ChangeSpec.witness6 (enc := enc) (C := Tryz.checked) false ⟨#[], #[.agg #[.int .i64 0, .int .i64 0, .int .i64 0, .int .i64 0, .slice none 0 0, .slice none 0 0, .slice none 0 0], .agg #[.int .i64 0, .int .i64 0, .int .i64 0, .int .i64 0, .int .i64 0, .int .i64 0, .slice none 0 0, .slice none 0 0]], []⟩ 8 (by kernel_rfl) (by kernel_rfl) (by kernel_rfl) (by kernel_rfl)) ?_
  intro W base args ds gs before hval0 hW hcnd _
  have hval : ∀ (j : Nat) t v, Tryz.f5.params[j]? = some t → args[j]? = some v → Value.okWide Tryz.prog W .any base t v := hval0
  have hW' := hW
  obtain ⟨p, q, hA0, hV, rfl, hfz, hnd⟩ := hW
  have hA : DataW.TrodAll enc Tryz.prog W 0 (fun _ => true) true Tryz.f5.params.toList args.toList ds p := hA0
  rw [Tryz.params5] at hA hval
  obtain ⟨v0, v1, d0, d1, p0, p1, rfl, rfl, rfl, h0, h1⟩ := trodAll_two hA
  obtain ⟨rfl, rfl⟩ := trodVars_none hV
  obtain ⟨j, vw, X, Y, rfl, hj, hX, hXl, hY, hYl, hYu⟩ := open_commit (hval 0 _ v0 rfl rfl) h0
  obtain ⟨r, rl, wl, rfl, hr⟩ := open_raw12 (hval 1 _ v1 rfl rfl) h1
  refine (CommitValid_c W hj hX hXl hY hYl hYu hr).mono fun e W' ⟨x, he, hx, hg⟩ => ?_
  subst he hx
  refine ⟨_, rfl, law_post hW' hg (by rw [Tryz.params5]; decide +kernel) rfl rfl (tb := 4) (by kernel_rfl) Tryz.underlying4⟩

theorem cv1 : Rows.commitValidRow.wf (OpenSpec.ofChange Rows.commitValidSpec) = true := by kernel_rfl
theorem cv2 : mapsRowed Tryz.prog = true := by kernel_rfl
theorem cv3 : Tryz.f5.params.all (Tryz.prog.readableRec ·) = true := by kernel_rfl
theorem cv4 : namedTie Tryz.prog Rows.commitValidRow.named Rows.commitValidSpec.vars = true := by kernel_rfl
theorem cv5 : (Rows.commitValidRow.inPlace == Tryz.prog.inPlace 5) = true := by kernel_rfl
theorem cv6 : (Rows.commitValidRow.unfollowed == Tryz.prog.unfollowed 5) = true := by kernel_rfl
theorem cv7 : (Rows.commitValidRow.recurses == Tryz.prog.recurses 5) = true := by kernel_rfl
theorem cv8 : (Rows.commitValidRow.named == Tryz.prog.varsNamed 5) = true := by kernel_rfl
theorem closedCV : joinedFacts Tryz.prog 5 Tryz.f5 Rows.commitValidSpec Rows.commitValidRow = true := by
  unfold joinedFacts
  rw [cv1, laid, cv2, cv3, cv4, cv5, cv6, cv7, cv8]
  kernel_rfl

theorem overCV : Rows.commitValidRow.holds Tryz.pinned (OpenSpec.ofChange Rows.commitValidSpec) :=
  OpenClaim.holds_of_wide 5 Tryz.f5 rfl rfl rfl rfl rfl rfl rfl ⟨rfl, rfl, rfl, rfl, rfl⟩ rfl rfl rfl rfl rfl (by kernel_rfl) Tryz.func5 closedCV
    (of_decide_eq_true (by kernel_rfl)) (by unfold Func.isWrapper; first | (rw [if_pos (by decide +kernel)]; kernel_rfl) | (rw [if_neg (by decide +kernel)]; exact ⟨rfl, rfl⟩))
    (fun os started H enc _ => liftedCV os started H enc)

/-- The statement. -/
theorem commitValid_holds : Rows.CommitValidSaid := overCV
#print axioms commitValid_holds
end Go.Proofs.YtjifihffjmbjfaaGreat
