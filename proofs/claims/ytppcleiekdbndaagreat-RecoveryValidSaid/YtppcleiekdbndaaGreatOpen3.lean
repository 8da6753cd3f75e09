/- Pages, and what has been seen, as they come in. -/
import Derived.Test.YtppcleiekdbndaaGreatOpen2
import Derived.Test.YtppcleiekdbndaaGreatCV2
import Derived.OpenShut
set_option linter.unusedVariables false
namespace Go.Proofs.YtppcleiekdbndaaGreat
open Go.ChangeShapes Go.WideShapes Go.ChangeAt Go.RowKit Go.Eng

section
variable {H : Type} {enc : TypeId × Value → H} {W : World} {held : Bool}

abbrev TU : TypeId := 32
theorem cU : Tryz.prog.cellsOf TU = 1 := by kernel_rfl

theorem len7 {cs : List Value} (h : cs.length = 7) : ∃ a b c d e f g, cs = [a, b, c, d, e, f, g] := by
  match cs, h with
  | [a, b, c, d, e, f, g], _ => exact ⟨a, b, c, d, e, f, g, rfl⟩
theorem len8 {cs : List Value} (h : cs.length = 8) : ∃ a b c d e f g i, cs = [a, b, c, d, e, f, g, i] := by
  match cs, h with
  | [a, b, c, d, e, f, g, i], _ => exact ⟨a, b, c, d, e, f, g, i, rfl⟩
theorem len9 {cs : List Value} (h : cs.length = 9) : ∃ a b c d e f g i j, cs = [a, b, c, d, e, f, g, i, j] := by
  match cs, h with
  | [a, b, c, d, e, f, g, i, j], _ => exact ⟨a, b, c, d, e, f, g, i, j, rfl⟩

theorem open_seen {fuel : Nat} {cs : List Value} {x : DataW H × List MemPlace} (h : DataW.trod enc Tryz.prog W 0 (fun _ => true) held fuel 332 cs = some x) : ∃ m : ApiSeenR, cs = m.cells ∧ U64 m.Head := by
  obtain ⟨xs, n, _, _, hl, hlen, hfs⟩ := DataW.trod_struct Tryz.underlying332 h
  have hc : Tryz.prog.cellsOf 332 = 2 := by kernel_rfl
  obtain ⟨a, b, rfl⟩ := len2 (hl.trans hc)
  obtain ⟨_, g0⟩ := fld hfs hlen 0 TI 0 1 rfl cI
  obtain ⟨_, g1⟩ := fld hfs hlen 1 TU 1 1 rfl cU
  obtain ⟨n0, e0, _, w0⟩ := DataW.trod_int Tryz.underlying3 g0
  obtain ⟨n1, e1, _, w1⟩ := DataW.trod_int Tryz.underlying32 g1
  simp at e0 e1
  exact ⟨⟨n0, n1⟩, by rw [e0, e1]; rfl, u64_of w1⟩

theorem arr_el {m k n : Nat} {e : TypeId} {cs : List Value} {xs : List (DataW H × List MemPlace)} (hx : ∀ i, i < n → DataW.trod enc Tryz.prog W 0 (fun _ => true) held m e ((cs.drop (i * k)).take k) = xs[i]?) (hl : xs.length = n) (hk : k = 1) (i : Nat) (hi : i < n) : ∃ y, DataW.trod enc Tryz.prog W 0 (fun _ => true) held m e ((cs.drop i).take 1) = some y := by
  subst hk
  have := hx i hi
  rw [Nat.mul_one, List.getElem?_eq_getElem (by omega)] at this
  exact ⟨_, this⟩

theorem open_page {fuel : Nat} {cs : List Value} {x : DataW H × List MemPlace} (h : DataW.trod enc Tryz.prog W 0 (fun _ => true) held fuel 140 cs = some x) : ∃ m : ApiPageR, cs = m.cells ∧ U64 m.Head := by
  obtain ⟨xs, n, _, _, hl, hlen, hfs⟩ := DataW.trod_struct Tryz.underlying140 h
  have hc : Tryz.prog.cellsOf 140 = 9 := by kernel_rfl
  have ha : Tryz.prog.cellsOf 138 = 7 := by kernel_rfl
  obtain ⟨c0, c1, c2, c3, c4, c5, c6, c7, c8, rfl⟩ := len9 (hl.trans hc)
  obtain ⟨_, g0⟩ := fld hfs hlen 0 TI 0 1 rfl cI
  obtain ⟨_, g1⟩ := fld hfs hlen 1 TU 1 1 rfl cU
  obtain ⟨_, g2⟩ := fld hfs hlen 2 138 2 7 rfl ha
  obtain ⟨n0, e0, _, w0⟩ := DataW.trod_int Tryz.underlying3 g0
  obtain ⟨n1, e1, _, w1⟩ := DataW.trod_int Tryz.underlying32 g1
  obtain ⟨ys, m, _, _, _, hy, hys⟩ := DataW.trod_array Tryz.underlying138 g2
  obtain ⟨_, k0⟩ := arr_el hys hy cU 0 (by omega)
  obtain ⟨_, k1⟩ := arr_el hys hy cU 1 (by omega)
  obtain ⟨_, k2⟩ := arr_el hys hy cU 2 (by omega)
  obtain ⟨_, k3⟩ := arr_el hys hy cU 3 (by omega)
  obtain ⟨_, k4⟩ := arr_el hys hy cU 4 (by omega)
  obtain ⟨_, k5⟩ := arr_el hys hy cU 5 (by omega)
  obtain ⟨_, k6⟩ := arr_el hys hy cU 6 (by omega)
  obtain ⟨d0, f0, _, _⟩ := DataW.trod_int Tryz.underlying32 k0
  obtain ⟨d1, f1, _, _⟩ := DataW.trod_int Tryz.underlying32 k1
  obtain ⟨d2, f2, _, _⟩ := DataW.trod_int Tryz.underlying32 k2
  obtain ⟨d3, f3, _, _⟩ := DataW.trod_int Tryz.underlying32 k3
  obtain ⟨d4, f4, _, _⟩ := DataW.trod_int Tryz.underlying32 k4
  obtain ⟨d5, f5, _, _⟩ := DataW.trod_int Tryz.underlying32 k5
  obtain ⟨d6, f6, _, _⟩ := DataW.trod_int Tryz.underlying32 k6
  simp at e0 e1 f0 f1 f2 f3 f4 f5 f6
  exact ⟨⟨n0, n1, d0, d1, d2, d3, d4, d5, d6⟩, by rw [e0, e1, f0, f1, f2, f3, f4, f5, f6]; rfl, u64_of w1⟩

theorem open_seens {fuel : Nat} {cs : List Value} {x : DataW H × List MemPlace} (h : DataW.trod enc Tryz.prog W 0 (fun _ => true) held fuel 128 cs = some x) : ∃ (a : Option Addr) (c : Nat) (L : List ApiSeenR), cs = [.slice a L.length c] ∧ L.length ≤ c ∧ Rd W a (snrows L).flatten ∧ ∀ m ∈ L, U64 m.Head := by
  have hm : Tryz.prog.cellsOf 332 = 2 := by kernel_rfl
  obtain ⟨ad, cap, rows, e1, hcap, hrd, hrows⟩ := open_rowsC Tryz.underlying128 hm (by omega) h
  obtain ⟨ms, rfl, hu⟩ := rows_of (cells := ApiSeenR.cells) (Ok := fun m => U64 m.Head) fun r hr => by
    obtain ⟨_, fuel, x, hx⟩ := hrows r hr
    exact open_seen hx
  rw [List.length_map] at e1 hcap
  exact ⟨ad, cap, ms, e1, hcap, hrd, hu⟩

theorem open_pages {fuel : Nat} {cs : List Value} {x : DataW H × List MemPlace} (h : DataW.trod enc Tryz.prog W 0 (fun _ => true) held fuel 129 cs = some x) : ∃ (a : Option Addr) (c : Nat) (L : List ApiPageR), cs = [.slice a L.length c] ∧ L.length ≤ c ∧ Rd W a (pgrows L).flatten ∧ ∀ m ∈ L, U64 m.Head := by
  have hm : Tryz.prog.cellsOf 140 = 9 := by kernel_rfl
  obtain ⟨ad, cap, rows, e1, hcap, hrd, hrows⟩ := open_rowsC Tryz.underlying129 hm (by omega) h
  obtain ⟨ms, rfl, hu⟩ := rows_of (cells := ApiPageR.cells) (Ok := fun m => U64 m.Head) fun r hr => by
    obtain ⟨_, fuel, x, hx⟩ := hrows r hr
    exact open_page hx
  rw [List.length_map] at e1 hcap
  exact ⟨ad, cap, ms, e1, hcap, hrd, hu⟩

set_option maxRecDepth 100000 in
theorem open_pagesT {r : Reach} {base : Nat} {v : Value} {d : DataW H} {p : List MemPlace} (hv : Value.okWide Tryz.prog W r base 129 v) (h : DataW.Trod enc Tryz.prog W 0 (fun _ => true) held 129 v d p) :
    ∃ (a : Option Addr) (c : Nat) (L : List ApiPageR), v = .slice a L.length c ∧ Rd W a (pgrows L).flatten ∧ ∀ m ∈ L, U64 m.Head := by
  have hm : Tryz.prog.cellsOf 140 = 9 := by kernel_rfl
  obtain ⟨ad, cap, rows, rfl, hrd, hrows⟩ := open_rows Tryz.underlying129 hm (by omega) hv h
  obtain ⟨ms, rfl, hu⟩ := rows_of (cells := ApiPageR.cells) (Ok := fun m => U64 m.Head) fun r hr => by
    obtain ⟨_, fuel, x, hx⟩ := hrows r hr
    exact open_page hx
  rw [List.length_map]
  exact ⟨ad, cap, ms, rfl, hrd, hu⟩
end
end Go.Proofs.YtppcleiekdbndaaGreat
