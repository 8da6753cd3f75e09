/- Jobs of package recovery as they come in. -/
import Derived.Test.YtppcleiekdbndaaGreatOpen3
import Derived.Test.YtppcleiekdbndaaGreatRVL
set_option linter.unusedVariables false
namespace Go.Proofs.YtppcleiekdbndaaGreat
open Go.ChangeShapes Go.WideShapes Go.ChangeAt Go.RowKit Go.Eng

section
variable {H : Type} {enc : TypeId × Value → H} {W : World} {held : Bool}

theorem len10 {cs : List Value} (h : cs.length = 10) : ∃ a b c d e f g i j k, cs = [a, b, c, d, e, f, g, i, j, k] := by
  match cs, h with
  | [a, b, c, d, e, f, g, i, j, k], _ => exact ⟨a, b, c, d, e, f, g, i, j, k, rfl⟩

set_option maxRecDepth 100000 in
theorem open_recovery {r : Reach} {base : Nat} {v : Value} {d : DataW H} {p : List MemPlace} (hv : Value.okWide Tryz.prog W r base 58 v) (h : DataW.Trod enc Tryz.prog W 0 (fun _ => true) held 58 v d p) :
    ∃ (q : RecoveryJobR) (vw : Vw), v = q.val ∧ VIn W q.View vw ∧ U64 q.Prev := by
  obtain ⟨cs, rfl, fuel, x, hf⟩ := open_agg Tryz.underlying58 hv h
  obtain ⟨xs, n, _, _, hl, hlen, hfs⟩ := DataW.trod_struct Tryz.underlying58 hf
  have hc : Tryz.prog.cellsOf 58 = 8 := by kernel_rfl
  have hw : Tryz.prog.cellsOf TVw = 2 := by kernel_rfl
  obtain ⟨c0, c1, c2, c3, c4, c5, c6, c7, rfl⟩ := len8 (hl.trans hc)
  obtain ⟨_, g0⟩ := fld hfs hlen 0 TI 0 1 rfl cI
  obtain ⟨_, g1⟩ := fld hfs hlen 1 TI 1 1 rfl cI
  obtain ⟨_, g2⟩ := fld hfs hlen 2 TI 2 1 rfl cI
  obtain ⟨_, g3⟩ := fld hfs hlen 3 TVw 3 2 rfl hw
  obtain ⟨_, g4⟩ := fld hfs hlen 4 TI 5 1 rfl cI
  obtain ⟨_, g5⟩ := fld hfs hlen 5 TI 6 1 rfl cI
  obtain ⟨_, g6⟩ := fld hfs hlen 6 TU 7 1 rfl cU
  obtain ⟨n0, e0, _, w0⟩ := DataW.trod_int Tryz.underlying3 g0
  obtain ⟨n1, e1, _, w1⟩ := DataW.trod_int Tryz.underlying3 g1
  obtain ⟨n2, e2, _, w2⟩ := DataW.trod_int Tryz.underlying3 g2
  obtain ⟨rv, vw, e3, hvw⟩ := open_view g3
  obtain ⟨n4, e4, _, w4⟩ := DataW.trod_int Tryz.underlying3 g4
  obtain ⟨n5, e5, _, w5⟩ := DataW.trod_int Tryz.underlying3 g5
  obtain ⟨n6, e6, _, w6⟩ := DataW.trod_int Tryz.underlying32 g6
  simp [ApiViewR.cells] at e0 e1 e2 e3 e4 e5 e6
  exact ⟨⟨n0, n1, n2, rv, n4, n5, n6⟩, vw, by rw [e0, e1, e2, e3.1, e3.2, e4, e5, e6]; rfl, hvw, u64_of w6⟩

set_option maxRecDepth 100000 in
theorem open_raw13 {r : Reach} {base : Nat} {v : Value} {d : DataW H} {p : List MemPlace} (hv : Value.okWide Tryz.prog W r base 60 v) (h : DataW.Trod enc Tryz.prog W 0 (fun _ => true) held 60 v d p) :
    ∃ (q : Bodegalaw13RawR), v = q.val ∧ R13Raw q := by
  obtain ⟨cs, rfl, fuel, x, hf⟩ := open_agg Tryz.underlying60 hv h
  obtain ⟨xs, n, _, _, hl, hlen, hfs⟩ := DataW.trod_struct Tryz.underlying60 hf
  have hc : Tryz.prog.cellsOf 60 = 10 := by kernel_rfl
  obtain ⟨c0, c1, c2, c3, c4, c5, c6, c7, c8, c9, rfl⟩ := len10 (hl.trans hc)
  obtain ⟨_, g0⟩ := fld hfs hlen 0 TI 0 1 rfl cI
  obtain ⟨_, g1⟩ := fld hfs hlen 1 TI 1 1 rfl cI
  obtain ⟨_, g2⟩ := fld hfs hlen 2 TI 2 1 rfl cI
  obtain ⟨_, g3⟩ := fld hfs hlen 3 TI 3 1 rfl cI
  obtain ⟨_, g4⟩ := fld hfs hlen 4 TI 4 1 rfl cI
  obtain ⟨_, g5⟩ := fld hfs hlen 5 TI 5 1 rfl cI
  obtain ⟨_, g6⟩ := fld hfs hlen 6 TI 6 1 rfl cI
  obtain ⟨_, g7⟩ := fld hfs hlen 7 TI 7 1 rfl cI
  obtain ⟨_, g8⟩ := fld hfs hlen 8 TI 8 1 rfl cI
  obtain ⟨_, g9⟩ := fld hfs hlen 9 TI 9 1 rfl cI
  obtain ⟨n0, e0, _, w0⟩ := DataW.trod_int Tryz.underlying3 g0
  obtain ⟨n1, e1, _, w1⟩ := DataW.trod_int Tryz.underlying3 g1
  obtain ⟨n2, e2, _, w2⟩ := DataW.trod_int Tryz.underlying3 g2
  obtain ⟨n3, e3, _, w3⟩ := DataW.trod_int Tryz.underlying3 g3
  obtain ⟨n4, e4, _, w4⟩ := DataW.trod_int Tryz.underlying3 g4
  obtain ⟨n5, e5, _, w5⟩ := DataW.trod_int Tryz.underlying3 g5
  obtain ⟨n6, e6, _, w6⟩ := DataW.trod_int Tryz.underlying3 g6
  obtain ⟨n7, e7, _, w7⟩ := DataW.trod_int Tryz.underlying3 g7
  obtain ⟨n8, e8, _, w8⟩ := DataW.trod_int Tryz.underlying3 g8
  obtain ⟨n9, e9, _, w9⟩ := DataW.trod_int Tryz.underlying3 g9
  simp at e0 e1 e2 e3 e4 e5 e6 e7 e8 e9
  exact ⟨⟨n0, n1, n2, n3, n4, n5, n6, n7, n8, n9⟩, by rw [e0, e1, e2, e3, e4, e5, e6, e7, e8, e9]; rfl, ⟨i64_of w0, i64_of w1, i64_of w2, i64_of w3, i64_of w4, i64_of w5, i64_of w6, i64_of w7, i64_of w8, i64_of w9⟩⟩
end
end Go.Proofs.YtppcleiekdbndaaGreat
