/- The statement FetchValidSaid: for every input the law returns true, and the arguments read as they did. -/
import Derived.Test.YtihfgcmmljnhnaaGreatOpen
import Derived.Test.YtihfgcmmljnhnaaGreatFVL
set_option linter.unusedVariables false
namespace Go.Proofs.YtihfgcmmljnhnaaGreat
open Go.ChangeShapes Go.WideShapes Go.ChangeAt Go.RowKit Go.Eng

section
variable {H : Type} {enc : TypeId × Value → H} {W : World} {held : Bool}

theorem open_agg {P : Program} {t : TypeId} {fs : Array Field} {r : Reach} {base : Nat} {v : Value} {d : DataW H} {p : List MemPlace} (ht : P.underlying t = some (.struct fs)) (hv : Value.okWide P W r base t v) (h : DataW.Trod enc P W 0 (fun _ => true) held t v d p) : ∃ cs : List Value, v = .agg cs.toArray ∧ ∃ fuel x, DataW.trod enc P W 0 (fun _ => true) held fuel t cs = some x := by
  obtain ⟨cs, rfl, _⟩ := okWide_struct ht hv
  obtain ⟨fuel, hf⟩ := h
  exact ⟨cs.toList, by simp, fuel, _, hf⟩

theorem len2 {cs : List Value} (h : cs.length = 2) : ∃ a b, cs = [a, b] := by
  match cs, h with
  | [a, b], _ => exact ⟨a, b, rfl⟩
theorem len3 {cs : List Value} (h : cs.length = 3) : ∃ a b c, cs = [a, b, c] := by
  match cs, h with
  | [a, b, c], _ => exact ⟨a, b, c, rfl⟩
theorem len4 {cs : List Value} (h : cs.length = 4) : ∃ a b c d, cs = [a, b, c, d] := by
  match cs, h with
  | [a, b, c, d], _ => exact ⟨a, b, c, d, rfl⟩
theorem len5 {cs : List Value} (h : cs.length = 5) : ∃ a b c d e, cs = [a, b, c, d, e] := by
  match cs, h with
  | [a, b, c, d, e], _ => exact ⟨a, b, c, d, e, rfl⟩

/-- A field of a struct that is read. -/
theorem fld {P : Program} {fs : Array Field} {xs : List (DataW H × List MemPlace)} {cs : List Value} {n : Nat} (hfs : ∀ (i : Nat) (f : Field), fs[i]? = some f → DataW.trod enc P W 0 (fun _ => true) held n f.type ((cs.drop f.offset).take (P.cellsOf f.type)) = xs[i]?) (hlen : xs.length = fs.size) (i T off k : Nat) (h : (fs[i]?.map fun f => (f.type, f.offset)) = some (T, off)) (hk : P.cellsOf T = k) :
    ∃ x, DataW.trod enc P W 0 (fun _ => true) held n T ((cs.drop off).take k) = some x := by
  cases hf : fs[i]? with
  | none => rw [hf] at h; cases h
  | some f =>
    rw [hf] at h
    simp at h
    obtain ⟨rfl, rfl⟩ := h
    subst hk
    have hi : i < xs.length := by rw [hlen]; exact (Array.getElem?_eq_some_iff.1 hf).1
    have := hfs i f hf
    rw [List.getElem?_eq_getElem hi] at this
    exact ⟨_, this⟩

abbrev TI : TypeId := 3
theorem cI : Tryz.prog.cellsOf TI = 1 := by kernel_rfl

theorem open_member {fuel : Nat} {cs : List Value} {x : DataW H × List MemPlace} (h : DataW.trod enc Tryz.prog W 0 (fun _ => true) held fuel TMb cs = some x) : ∃ m : ApiMemberR, cs = m.cells := by
  obtain ⟨xs, n, _, _, hl, hlen, hfs⟩ := DataW.trod_struct Tryz.underlying29 h
  have hc : Tryz.prog.cellsOf TMb = 3 := by kernel_rfl
  have hb : Tryz.prog.cellsOf 4 = 1 := by kernel_rfl
  obtain ⟨a, b, c, rfl⟩ := len3 (hl.trans hc)
  obtain ⟨_, g0⟩ := fld hfs hlen 0 TI 0 1 rfl cI
  obtain ⟨_, g1⟩ := fld hfs hlen 1 TI 1 1 rfl cI
  obtain ⟨_, g2⟩ := fld hfs hlen 2 4 2 1 rfl hb
  obtain ⟨n0, e0, _, w0⟩ := DataW.trod_int Tryz.underlying3 g0
  obtain ⟨n1, e1, _, w1⟩ := DataW.trod_int Tryz.underlying3 g1
  obtain ⟨n2, e2, _⟩ := DataW.trod_bool Tryz.underlying4 g2
  simp at e0 e1 e2
  exact ⟨⟨n0, n1, n2⟩, by rw [e0, e1, e2]; rfl⟩

theorem open_view {fuel : Nat} {cs : List Value} {x : DataW H × List MemPlace} (h : DataW.trod enc Tryz.prog W 0 (fun _ => true) held fuel TVw cs = some x) : ∃ (r : ApiViewR) (v : Vw), cs = r.cells ∧ VIn W r v := by
  obtain ⟨xs, n, _, _, hl, hlen, hfs⟩ := DataW.trod_struct Tryz.underlying25 h
  have hc : Tryz.prog.cellsOf TVw = 2 := by kernel_rfl
  have hs : Tryz.prog.cellsOf TSM = 1 := by kernel_rfl
  have hm : Tryz.prog.cellsOf TMb = 3 := by kernel_rfl
  obtain ⟨a, b, rfl⟩ := len2 (hl.trans hc)
  obtain ⟨_, g0⟩ := fld hfs hlen 0 TI 0 1 rfl cI
  obtain ⟨_, g1⟩ := fld hfs hlen 1 TSM 1 1 rfl hs
  obtain ⟨n0, e0, _, w0⟩ := DataW.trod_int Tryz.underlying3 g0
  obtain ⟨ad, cap, rows, e1, hcap, hrd, hrows⟩ := open_rowsC Tryz.underlying23 hm (by omega) g1
  simp at e0 e1
  obtain ⟨ms, rfl, _⟩ := rows_of (cells := ApiMemberR.cells) (Ok := fun _ => True) fun r hr => by
    obtain ⟨_, fuel, x, hx⟩ := hrows r hr
    obtain ⟨m, hm⟩ := open_member hx
    exact ⟨m, hm, trivial⟩
  rw [List.length_map] at e1 hcap
  exact ⟨⟨n0, ad, ms.length, cap⟩, ⟨n0, ms⟩, by rw [e0, e1]; rfl, ⟨rfl, rfl, hcap, hrd⟩⟩

set_option maxRecDepth 100000 in
theorem open_fetch {r : Reach} {base : Nat} {v : Value} {d : DataW H} {p : List MemPlace} (hv : Value.okWide Tryz.prog W r base 71 v) (h : DataW.Trod enc Tryz.prog W 0 (fun _ => true) held 71 v d p) :
    ∃ (q : FetchJobR) (vw : Vw) (l : List Int), v = q.val ∧ VIn W q.View vw ∧ Rd W q.Lines (is l) ∧ q.Lines_l = l.length := by
  obtain ⟨cs, rfl, fuel, x, hf⟩ := open_agg Tryz.underlying71 hv h
  obtain ⟨xs, n, _, _, hl, hlen, hfs⟩ := DataW.trod_struct Tryz.underlying71 hf
  have hc : Tryz.prog.cellsOf 71 = 4 := by kernel_rfl
  have hs : Tryz.prog.cellsOf 22 = 1 := by kernel_rfl
  have hw : Tryz.prog.cellsOf TVw = 2 := by kernel_rfl
  obtain ⟨c0, c1, c2, c3, rfl⟩ := len4 (hl.trans hc)
  obtain ⟨_, g0⟩ := fld hfs hlen 0 TI 0 1 rfl cI
  obtain ⟨_, g1⟩ := fld hfs hlen 1 TVw 1 2 rfl hw
  obtain ⟨_, g2⟩ := fld hfs hlen 2 22 3 1 rfl hs
  obtain ⟨n0, e0, _, w0⟩ := DataW.trod_int Tryz.underlying3 g0
  obtain ⟨rv, vw, e1, hvw⟩ := open_view g1
  obtain ⟨ad, cap, l, e2, hcap, hrd, _⟩ := open_listC Tryz.underlying22 Tryz.underlying3 cI g2
  simp [ApiViewR.cells] at e0 e1 e2
  exact ⟨⟨n0, rv, ad, l.length, cap⟩, vw, l, by rw [e0, e1.1, e1.2, e2]; rfl, hvw, hrd, rfl⟩

set_option maxRecDepth 100000 in
theorem open_raw16 {r : Reach} {base : Nat} {v : Value} {d : DataW H} {p : List MemPlace} (hv : Value.okWide Tryz.prog W r base 73 v) (h : DataW.Trod enc Tryz.prog W 0 (fun _ => true) held 73 v d p) :
    ∃ (q : Bodegalaw16RawR) (l : List Int), v = q.val ∧ FRawIn W q l := by
  obtain ⟨cs, rfl, fuel, x, hf⟩ := open_agg Tryz.underlying73 hv h
  obtain ⟨xs, n, _, _, hl, hlen, hfs⟩ := DataW.trod_struct Tryz.underlying73 hf
  have hc : Tryz.prog.cellsOf 73 = 5 := by kernel_rfl
  have hs : Tryz.prog.cellsOf 22 = 1 := by kernel_rfl
  obtain ⟨c0, c1, c2, c3, c4, rfl⟩ := len5 (hl.trans hc)
  obtain ⟨_, g0⟩ := fld hfs hlen 0 TI 0 1 rfl cI
  obtain ⟨_, g1⟩ := fld hfs hlen 1 TI 1 1 rfl cI
  obtain ⟨_, g2⟩ := fld hfs hlen 2 TI 2 1 rfl cI
  obtain ⟨_, g3⟩ := fld hfs hlen 3 TI 3 1 rfl cI
  obtain ⟨_, g4⟩ := fld hfs hlen 4 22 4 1 rfl hs
  obtain ⟨n0, e0, _, w0⟩ := DataW.trod_int Tryz.underlying3 g0
  obtain ⟨n1, e1, _, w1⟩ := DataW.trod_int Tryz.underlying3 g1
  obtain ⟨n2, e2, _, w2⟩ := DataW.trod_int Tryz.underlying3 g2
  obtain ⟨n3, e3, _, w3⟩ := DataW.trod_int Tryz.underlying3 g3
  obtain ⟨ad, cap, l, e4, hcap, hrd, hi⟩ := open_listC Tryz.underlying22 Tryz.underlying3 cI g4
  simp at e0 e1 e2 e3 e4
  exact ⟨⟨n0, n1, n2, n3, ad, l.length, cap⟩, l, by rw [e0, e1, e2, e3, e4]; rfl, ⟨i64_of w0, i64_of w1, i64_of w2, i64_of w3, hrd, rfl, hi⟩⟩
end

set_option maxRecDepth 100000 in
theorem liftedFV (os : Os) (started : os.Started) (H : Type) (enc : TypeId × Value → H) :
    ReturnsInHanded {} Tryz.checked os 7 .any (Rows.fetchValidSpec.pre6 enc Tryz.prog Tryz.f7 Rows.fetchValidRow.domain false) (Rows.fetchValidSpec.post enc Tryz.prog Tryz.f7 false true false false) := by
  refine returnsInHanded_of_change (C := Tryz.checked) ownKn started (by kernel_rfl) Tryz.func7
    (ChangeSpec.witness6 (enc := enc) (C := Tryz.checked) false ⟨#[], #[.agg #[.int .i64 0, .int .i64 0, .slice none 0 0, .slice none 0 0], .agg #[.int .i64 0, .int .i64 0, .int .i64 0, .int .i64 0, .slice none 0 0]], []⟩ 8 (by kernel_rfl) (by kernel_rfl) (by kernel_rfl) (by kernel_rfl)) ?_
  intro W base args ds gs before hval0 hW hcnd _
  have hval : ∀ (j : Nat) t v, Tryz.f7.params[j]? = some t → args[j]? = some v → Value.okWide Tryz.prog W .any base t v := hval0
  have hW' := hW
  obtain ⟨p, q, hA0, hV, rfl, hfz, hnd⟩ := hW
  have hA : DataW.TrodAll enc Tryz.prog W 0 (fun _ => true) true Tryz.f7.params.toList args.toList ds p := hA0
  rw [Tryz.params7] at hA hval
  obtain ⟨v0, v1, d0, d1, p0, p1, rfl, rfl, rfl, h0, h1⟩ := trodAll_two hA
  obtain ⟨rfl, rfl⟩ := trodVars_none hV
  obtain ⟨j, vw, l, rfl, hj, hl, hll⟩ := open_fetch (hval 0 _ v0 rfl rfl) h0
  obtain ⟨r, rl, rfl, hr⟩ := open_raw16 (hval 1 _ v1 rfl rfl) h1
  refine (FetchValid_c W hj hl hll hr).mono fun e W' ⟨x, he, hx, hg⟩ => ?_
  subst he hx
  refine ⟨_, rfl, law_post hW' hg (by rw [Tryz.params7]; decide +kernel) rfl rfl (tb := 4) (by kernel_rfl) Tryz.underlying4⟩

theorem fv1 : Rows.fetchValidRow.wf (OpenSpec.ofChange Rows.fetchValidSpec) = true := by kernel_rfl
theorem fv2 : mapsRowed Tryz.prog = true := by kernel_rfl
theorem fv3 : Tryz.f7.params.all (Tryz.prog.readableRec ·) = true := by kernel_rfl
theorem fv4 : namedTie Tryz.prog Rows.fetchValidRow.named Rows.fetchValidSpec.vars = true := by kernel_rfl
theorem fv5 : (Rows.fetchValidRow.inPlace == Tryz.prog.inPlace 7) = true := by kernel_rfl
theorem fv6 : (Rows.fetchValidRow.unfollowed == Tryz.prog.unfollowed 7) = true := by kernel_rfl
theorem fv7 : (Rows.fetchValidRow.recurses == Tryz.prog.recurses 7) = true := by kernel_rfl
theorem fv8 : (Rows.fetchValidRow.named == Tryz.prog.varsNamed 7) = true := by kernel_rfl
theorem closedFV : joinedFacts Tryz.prog 7 Tryz.f7 Rows.fetchValidSpec Rows.fetchValidRow = true := by
  unfold joinedFacts
  rw [fv1, laid, fv2, fv3, fv4, fv5, fv6, fv7, fv8]
  kernel_rfl

theorem overFV : Rows.fetchValidRow.holds Tryz.pinned (OpenSpec.ofChange Rows.fetchValidSpec) :=
  OpenClaim.holds_of_wide 7 Tryz.f7 rfl rfl rfl rfl rfl rfl rfl ⟨rfl, rfl, rfl, rfl, rfl⟩ rfl rfl rfl rfl rfl (by kernel_rfl) Tryz.func7 closedFV
    (of_decide_eq_true (by kernel_rfl)) (by unfold Func.isWrapper; first | (rw [if_pos (by decide +kernel)]; kernel_rfl) | (rw [if_neg (by decide +kernel)]; exact ⟨rfl, rfl⟩))
    (fun os started H enc _ => liftedFV os started H enc)

/-- The statement. -/
theorem fetchValid_holds : Rows.FetchValidSaid := overFV
#print axioms fetchValid_holds
end Go.Proofs.YtihfgcmmljnhnaaGreat
