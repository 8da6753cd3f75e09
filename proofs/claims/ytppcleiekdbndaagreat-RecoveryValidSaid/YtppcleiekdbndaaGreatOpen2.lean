/- Arguments that came in, opened: structs and views. -/
import Derived.Test.YtppcleiekdbndaaGreatOpen
import Derived.Test.YtppcleiekdbndaaGreatVin
set_option linter.unusedVariables false
namespace Go.Proofs.YtppcleiekdbndaaGreat
open Go.ChangeShapes Go.WideShapes Go.ChangeAt Go.RowKit Go.Eng

section
variable {H : Type} {enc : TypeId × Value → H} {W : World} {held : Bool}

theorem open_agg {P : Program} {t : TypeId} {fs : Array Field} {r : Reach} {base : Nat} {v : Value} {d : DataW H} {p : List MemPlace} (ht : P.underlying t = some (.struct fs)) (hv : Value.okWide P W r base t v) (h : DataW.Trod enc P W 0 (fun _ => true) held t v d p) : ∃ cs : List Value, v = .agg cs.toArray ∧ ∃ fuel x, DataW.trod enc P W 0 (fun _ => true) held fuel t cs = some x := by
  obtain ⟨cs, rfl, _⟩ := okWide_struct ht hv
  obtain ⟨fuel, hf⟩ := h
  exact ⟨cs.toList, by simp, fuel, _, hf⟩

theorem len2 {cs : List Value} (h : cs.length = 2) : ∃ a b, cs = [a, b] := by
  match cs, h with
  | [a, b], _ => exact ⟨a, b, rfl⟩
theorem len3 {cs : List Value} (h : cs.length = 3) : ∃ a b c, cs = [a, b, c] := by
  match cs, h with
  | [a, b, c], _ => exact ⟨a, b, c, rfl⟩
theorem len4 {cs : List Value} (h : cs.length = 4) : ∃ a b c d, cs = [a, b, c, d] := by
  match cs, h with
  | [a, b, c, d], _ => exact ⟨a, b, c, d, rfl⟩
theorem len5 {cs : List Value} (h : cs.length = 5) : ∃ a b c d e, cs = [a, b, c, d, e] := by
  match cs, h with
  | [a, b, c, d, e], _ => exact ⟨a, b, c, d, e, rfl⟩

/-- A field of a struct that is read. -/
theorem fld {P : Program} {fs : Array Field} {xs : List (DataW H × List MemPlace)} {cs : List Value} {n : Nat} (hfs : ∀ (i : Nat) (f : Field), fs[i]? = some f → DataW.trod enc P W 0 (fun _ => true) held n f.type ((cs.drop f.offset).take (P.cellsOf f.type)) = xs[i]?) (hlen : xs.length = fs.size) (i T off k : Nat) (h : (fs[i]?.map fun f => (f.type, f.offset)) = some (T, off)) (hk : P.cellsOf T = k) :
    ∃ x, DataW.trod enc P W 0 (fun _ => true) held n T ((cs.drop off).take k) = some x := by
  cases hf : fs[i]? with
  | none => rw [hf] at h; cases h
  | some f =>
    rw [hf] at h
    simp at h
    obtain ⟨rfl, rfl⟩ := h
    subst hk
    have hi : i < xs.length := by rw [hlen]; exact (Array.getElem?_eq_some_iff.1 hf).1
    have := hfs i f hf
    rw [List.getElem?_eq_getElem hi] at this
    exact ⟨_, this⟩

abbrev TI : TypeId := 3
theorem cI : Tryz.prog.cellsOf TI = 1 := by kernel_rfl

theorem open_member {fuel : Nat} {cs : List Value} {x : DataW H × List MemPlace} (h : DataW.trod enc Tryz.prog W 0 (fun _ => true) held fuel TMb cs = some x) : ∃ m : ApiMemberR, cs = m.cells := by
  obtain ⟨xs, n, _, _, hl, hlen, hfs⟩ := DataW.trod_struct Tryz.underlying186 h
  have hc : Tryz.prog.cellsOf TMb = 3 := by kernel_rfl
  have hb : Tryz.prog.cellsOf 4 = 1 := by kernel_rfl
  obtain ⟨a, b, c, rfl⟩ := len3 (hl.trans hc)
  obtain ⟨_, g0⟩ := fld hfs hlen 0 TI 0 1 rfl cI
  obtain ⟨_, g1⟩ := fld hfs hlen 1 TI 1 1 rfl cI
  obtain ⟨_, g2⟩ := fld hfs hlen 2 4 2 1 rfl hb
  obtain ⟨n0, e0, _, w0⟩ := DataW.trod_int Tryz.underlying3 g0
  obtain ⟨n1, e1, _, w1⟩ := DataW.trod_int Tryz.underlying3 g1
  obtain ⟨n2, e2, _⟩ := DataW.trod_bool Tryz.underlying4 g2
  simp at e0 e1 e2
  exact ⟨⟨n0, n1, n2⟩, by rw [e0, e1, e2]; rfl⟩

theorem open_view {fuel : Nat} {cs : List Value} {x : DataW H × List MemPlace} (h : DataW.trod enc Tryz.prog W 0 (fun _ => true) held fuel TVw cs = some x) : ∃ (r : ApiViewR) (v : Vw), cs = r.cells ∧ VIn W r v := by
  obtain ⟨xs, n, _, _, hl, hlen, hfs⟩ := DataW.trod_struct Tryz.underlying31 h
  have hc : Tryz.prog.cellsOf TVw = 2 := by kernel_rfl
  have hs : Tryz.prog.cellsOf TSM = 1 := by kernel_rfl
  have hm : Tryz.prog.cellsOf TMb = 3 := by kernel_rfl
  obtain ⟨a, b, rfl⟩ := len2 (hl.trans hc)
  obtain ⟨_, g0⟩ := fld hfs hlen 0 TI 0 1 rfl cI
  obtain ⟨_, g1⟩ := fld hfs hlen 1 TSM 1 1 rfl hs
  obtain ⟨n0, e0, _, w0⟩ := DataW.trod_int Tryz.underlying3 g0
  obtain ⟨ad, cap, rows, e1, hcap, hrd, hrows⟩ := open_rowsC Tryz.underlying29 hm (by omega) g1
  simp at e0 e1
  obtain ⟨ms, rfl, _⟩ := rows_of (cells := ApiMemberR.cells) (Ok := fun _ => True) fun r hr => by
    obtain ⟨_, fuel, x, hx⟩ := hrows r hr
    obtain ⟨m, hm⟩ := open_member hx
    exact ⟨m, hm, trivial⟩
  rw [List.length_map] at e1 hcap
  exact ⟨⟨n0, ad, ms.length, cap⟩, ⟨n0, ms⟩, by rw [e0, e1]; rfl, ⟨rfl, rfl, hcap, hrd⟩⟩

theorem words_of {P : Program} {e : TypeId} (he : P.underlying e = some (.int .u64)) : ∀ rows : List (List Value), (∀ r ∈ rows, ∃ fuel x, DataW.trod enc P W 0 (fun _ => true) held fuel e r = some x) → ∃ xs : List Int, rows.length = xs.length ∧ rows.flatten = us xs ∧ ∀ x ∈ xs, U64 x
  | [], _ => ⟨[], rfl, rfl, fun x hx => by cases hx⟩
  | r :: rows, h => by
    obtain ⟨fuel, x, hx⟩ := h r List.mem_cons_self
    obtain ⟨n, rfl, _, w⟩ := DataW.trod_int he hx
    obtain ⟨xs, g1, g2, g3⟩ := words_of he rows fun r hr => h r (List.mem_cons_of_mem _ hr)
    refine ⟨n :: xs, by simp [g1], by simp [us, g2], fun x hx => ?_⟩
    rcases List.mem_cons.1 hx with rfl | hx
    · exact u64_of w
    · exact g3 x hx

theorem open_words {P : Program} {r : Reach} {b0 : Nat} {t e : TypeId} {v : Value} {d : DataW H} {ps : List MemPlace} (ht : P.underlying t = some (.slice e)) (he : P.underlying e = some (.int .u64)) (hc : P.cellsOf e = 1) (hval : Value.okWide P W r b0 t v)
    (hd : DataW.Trod enc P W 0 (fun _ => true) held t v d ps) : ∃ a cap xs, v = .slice a (List.length xs) cap ∧ Rd W a (us xs) ∧ ∀ x ∈ xs, U64 x := by
  obtain ⟨a, cap, rows, rfl, h1, h2⟩ := open_rows ht hc (by omega) hval hd
  obtain ⟨xs, g1, g2, g3⟩ := words_of he rows fun r hr => (h2 r hr).2
  exact ⟨a, cap, xs, by rw [g1], by rw [← g2]; exact h1, g3⟩

theorem trodAll_eight {P : Program} {sp : Nat → Bool} {b : Nat} {t0 t1 t2 t3 t4 t5 t6 t7 : TypeId} {vs : List Value} {ds : List (DataW H)} {ps : List MemPlace} (h : DataW.TrodAll enc P W b sp held [t0, t1, t2, t3, t4, t5, t6, t7] vs ds ps) :
    ∃ v0 v1 v2 v3 v4 v5 v6 v7 d0 d1 d2 d3 d4 d5 d6 d7 p0 p1 p2 p3 p4 p5 p6 p7, vs = [v0, v1, v2, v3, v4, v5, v6, v7] ∧ ds = [d0, d1, d2, d3, d4, d5, d6, d7] ∧ DataW.Trod enc P W b sp held t0 v0 d0 p0 ∧ DataW.Trod enc P W b sp held t1 v1 d1 p1 ∧ DataW.Trod enc P W b sp held t2 v2 d2 p2 ∧ DataW.Trod enc P W b sp held t3 v3 d3 p3 ∧ DataW.Trod enc P W b sp held t4 v4 d4 p4 ∧ DataW.Trod enc P W b sp held t5 v5 d5 p5 ∧ DataW.Trod enc P W b sp held t6 v6 d6 p6 ∧ DataW.Trod enc P W b sp held t7 v7 d7 p7 := by
  obtain ⟨v0, s0, d0, e0, p0, q0, rfl, rfl, rfl, h0, k0⟩ := trodAll_cons h
  obtain ⟨v1, s1, d1, e1, p1, q1, rfl, rfl, rfl, h1, k1⟩ := trodAll_cons k0
  obtain ⟨v2, s2, d2, e2, p2, q2, rfl, rfl, rfl, h2, k2⟩ := trodAll_cons k1
  obtain ⟨v3, s3, d3, e3, p3, q3, rfl, rfl, rfl, h3, k3⟩ := trodAll_cons k2
  obtain ⟨v4, s4, d4, e4, p4, q4, rfl, rfl, rfl, h4, k4⟩ := trodAll_cons k3
  obtain ⟨v5, s5, d5, e5, p5, q5, rfl, rfl, rfl, h5, k5⟩ := trodAll_cons k4
  obtain ⟨v6, s6, d6, e6, p6, q6, rfl, rfl, rfl, h6, k6⟩ := trodAll_cons k5
  obtain ⟨v7, s7, d7, e7, p7, q7, rfl, rfl, rfl, h7, k7⟩ := trodAll_cons k6
  obtain ⟨rfl, rfl, rfl⟩ := trodAll_nil k7
  exact ⟨_, _, _, _, _, _, _, _, _, _, _, _, _, _, _, _, _, _, _, _, _, _, _, _, rfl, rfl, h0, h1, h2, h3, h4, h5, h6, h7⟩
end
end Go.Proofs.YtppcleiekdbndaaGreat
