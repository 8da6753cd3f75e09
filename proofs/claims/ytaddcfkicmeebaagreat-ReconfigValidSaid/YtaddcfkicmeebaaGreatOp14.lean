/- A job of package reconfig as it comes in. -/
import Derived.Test.YtaddcfkicmeebaaGreatPostLaw
import Derived.Test.YtaddcfkicmeebaaGreatRC
import Derived.Deep.Slices
set_option linter.unusedVariables false
namespace Go.Proofs.YtaddcfkicmeebaaGreat
open Go.ChangeShapes Go.WideShapes Go.ChangeAt Go.RowKit Go.Eng

section
variable {H : Type} {enc : TypeId × Value → H} {W : World} {held : Bool}

theorem open_agg {P : Program} {t : TypeId} {fs : Array Field} {r : Reach} {base : Nat} {v : Value} {d : DataW H} {p : List MemPlace} (ht : P.underlying t = some (.struct fs)) (hv : Value.okWide P W r base t v) (h : DataW.Trod enc P W 0 (fun _ => true) held t v d p) : ∃ cs : List Value, v = .agg cs.toArray ∧ ∃ fuel x, DataW.trod enc P W 0 (fun _ => true) held fuel t cs = some x := by
  obtain ⟨cs, rfl, _⟩ := okWide_struct ht hv
  obtain ⟨fuel, hf⟩ := h
  exact ⟨cs.toList, by simp, fuel, _, hf⟩

theorem len4 {cs : List Value} (h : cs.length = 4) : ∃ a b c d, cs = [a, b, c, d] := by
  match cs, h with
  | [a, b, c, d], _ => exact ⟨a, b, c, d, rfl⟩

/-- A field of a struct that is read. -/
theorem fld {P : Program} {fs : Array Field} {xs : List (DataW H × List MemPlace)} {cs : List Value} {n : Nat} (hfs : ∀ (i : Nat) (f : Field), fs[i]? = some f → DataW.trod enc P W 0 (fun _ => true) held n f.type ((cs.drop f.offset).take (P.cellsOf f.type)) = xs[i]?) (hlen : xs.length = fs.size) (i T off k : Nat) (h : (fs[i]?.map fun f => (f.type, f.offset)) = some (T, off)) (hk : P.cellsOf T = k) :
    ∃ x, DataW.trod enc P W 0 (fun _ => true) held n T ((cs.drop off).take k) = some x := by
  cases hf : fs[i]? with
  | none => rw [hf] at h; cases h
  | some f =>
    rw [hf] at h
    simp at h
    obtain ⟨rfl, rfl⟩ := h
    subst hk
    have hi : i < xs.length := by rw [hlen]; exact (Array.getElem?_eq_some_iff.1 hf).1
    have := hfs i f hf
    rw [List.getElem?_eq_getElem hi] at this
    exact ⟨_, this⟩

abbrev TI : TypeId := 3
theorem cI : Tryz.prog.cellsOf TI = 1 := by kernel_rfl

set_option maxRecDepth 100000 in
theorem open_reconfig {r : Reach} {base : Nat} {v : Value} {d : DataW H} {p : List MemPlace} (hv : Value.okWide Tryz.prog W r base 23 v) (h : DataW.Trod enc Tryz.prog W 0 (fun _ => true) held 23 v d p) :
    ∃ (q : ReconfigJobR), v = q.val ∧ RCIn q := by
  obtain ⟨cs, rfl, fuel, x, hf⟩ := open_agg Tryz.underlying23 hv h
  obtain ⟨xs, n, _, _, hl, hlen, hfs⟩ := DataW.trod_struct Tryz.underlying23 hf
  have hc : Tryz.prog.cellsOf 23 = 4 := by kernel_rfl
  obtain ⟨c0, c1, c2, c3, rfl⟩ := len4 (hl.trans hc)
  obtain ⟨_, g0⟩ := fld hfs hlen 0 TI 0 1 rfl cI
  obtain ⟨_, g1⟩ := fld hfs hlen 1 TI 1 1 rfl cI
  obtain ⟨_, g2⟩ := fld hfs hlen 2 TI 2 1 rfl cI
  obtain ⟨_, g3⟩ := fld hfs hlen 3 TI 3 1 rfl cI
  obtain ⟨n0, e0, _, w0⟩ := DataW.trod_int Tryz.underlying3 g0
  obtain ⟨n1, e1, _, w1⟩ := DataW.trod_int Tryz.underlying3 g1
  obtain ⟨n2, e2, _, w2⟩ := DataW.trod_int Tryz.underlying3 g2
  obtain ⟨n3, e3, _, w3⟩ := DataW.trod_int Tryz.underlying3 g3
  simp at e0 e1 e2 e3
  exact ⟨⟨n0, n1, n2, n3⟩, by rw [e0, e1, e2, e3]; rfl, ⟨i64_of w0, i64_of w1, i64_of w2, i64_of w3⟩⟩
end
end Go.Proofs.YtaddcfkicmeebaaGreat
