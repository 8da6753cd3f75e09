/- The law FetchValid. -/
import Derived.Test.YtihfgcmmljnhnaaGreatFO
import Derived.Test.YtihfgcmmljnhnaaGreatAwk16
import Derived.Test.YtihfgcmmljnhnaaGreatVin
set_option linter.unusedVariables false
namespace Go.Proofs.YtihfgcmmljnhnaaGreat
open Go.Eng

structure FRawIn (w : World) (r : Bodegalaw16RawR) (l : List Int) : Prop where
  a : I64 r.Total
  b : I64 r.Mask
  c : I64 r.Spoil
  d : I64 r.At
  rd : Rd w r.Lines (is l)
  len : r.Lines_l = l.length
  i64 : ∀ x ∈ l, I64 x

set_option maxRecDepth 100000 in
theorem FetchValid_c (w : World) {p0 : FetchJobR} {p1 : Bodegalaw16RawR} {v : Vw} {lines l : List Int} (hv : VIn w p0.View v) (hr : Rd w p0.Lines (is lines)) (hl : p0.Lines_l = lines.length) (hp : FRawIn w p1 l) :
    Does 7 [p0.val, p1.val] w fun x w' => x = .bool true ∧ New w w' := by
  refine does Tryz.func7 ?_
  rw [bodegalaw16_FetchValid_vc]
  rintro b1 w1 hb1 hw1
  obtain ⟨hz1, hn1⟩ := box_new hb1 hw1
  have hz1 : Blk w1 b1 p0.cells 71 := hz1
  clear hw1
  rintro b2 w2 hb2 hw2
  obtain ⟨hz2, hn2⟩ := box_new hb2 hw2
  have hz2 : Blk w2 b2 p1.cells 73 := hz2
  clear hw2
  have hz12 := New.blk hn2 hz1
  have hn := hn1.new hn2
  refine ⟨_, _, _, hz12.cell (i := 2) rfl, bif_dec (fun _ => ⟨rfl, hn⟩) (fun h8 => ⟨_, _, _, hz12.cell (i := 3) rfl, bif_dec (fun _ => ⟨rfl, hn⟩) (fun h11 => ⟨_, _, _, hz2.cell (i := 4) rfl, bif_dec (fun _ => ⟨rfl, hn⟩) (fun h10 => ?_)⟩)⟩)⟩
  have hj : FJobAt w p0 ⟨p0.Total, v, lines⟩ := ⟨rfl, ⟨NoM, hv.at (by have := hv.len; omega)⟩, hr, hl, by show lines.length ≤ _; omega⟩
  have hp' : FRaw w p1 l := ⟨hp.a, hp.b, hp.c, hp.d, hp.rd, hp.len, by have := hp.len; omega, hp.i64⟩
  refine Bodegalaw16RawR.mk_ex p1 ⟨cellsAt_blk hz2 rfl, ?_⟩
  refine at_call (FOf_c w2 (hp'.new hn)) ?_
  rintro x w3 ⟨r, j, rfl, hrj, hn3⟩
  refine FetchJobR.mk_ex r ⟨rfl, ?_⟩
  refine box_k (vs := r.cells) rfl (FetchJobR.single _) fun b3 w5 hb3 hz3 hn5 => ?_
  rintro w6 hw6
  have hn6 : New w5 w6 := by rw [hw6]; exact new_drew _
  clear hw6
  refine ⟨fun y => New w6 y, Keep.refl _ _, ?_⟩
  have h16 := New.blk (hn3.new (hn5.new hn6)) hz12
  have h36 := New.blk hn6 hz3
  have hn06 := hn.new (hn3.new (hn5.new hn6))
  refine at_call (Go.Mx.awake16_c w6) ?_
  rintro x w7 ⟨rfl, hn7⟩
  refine ⟨_, rfl, hn7, bif_t rfl ?_⟩
  refine FetchJobR.mk_ex p0 ⟨fun y hy => cellsAt_blk (New.blk hy h16) rfl, _, fun y hy => (New.blk hy h16).cell (i := 0) rfl, ApiViewR.mk_ex p0.View ⟨fun y hy => cellsAt_blk (New.blk hy h16) rfl, _, _, _, fun y hy => (New.blk hy h16).cell (i := 3) rfl, ?_⟩⟩
  refine at_call (FValid_c (hj.new (hn06.new hn7))) ?_
  rintro x w8 ⟨rfl, hn8⟩
  refine ⟨_, rfl, hn7.new hn8, ?_⟩
  refine at_call (RValidFetch_c (hj.new ((hn06.new hn7).new hn8))) ?_
  rintro x w9 ⟨rfl, hn9⟩
  have hn69 := (hn7.new hn8).new hn9
  refine ⟨_, rfl, hn69, bif_t (by simp) ?_⟩
  refine FetchJobR.mk_ex r ⟨fun y hy => cellsAt_blk (New.blk hy h36) rfl, _, fun y hy => (New.blk hy h36).cell (i := 0) rfl, ApiViewR.mk_ex r.View ⟨fun y hy => cellsAt_blk (New.blk hy h36) rfl, _, _, _, fun y hy => (New.blk hy h36).cell (i := 3) rfl, ?_⟩⟩
  have hrj9 := hrj.new ((hn5.new hn6).new hn69)
  refine at_call (FValid_c hrj9) ?_
  rintro x w10 ⟨rfl, hn10⟩
  refine ⟨_, rfl, hn69.new hn10, ?_⟩
  refine at_call (RValidFetch_c (hrj9.new hn10)) ?_
  rintro x w11 ⟨rfl, hn11⟩
  exact ⟨_, rfl, (hn69.new hn10).new hn11, by simp, hn06.new ((hn69.new hn10).new hn11)⟩
end Go.Proofs.YtihfgcmmljnhnaaGreat
