/- The law CommitValid. -/
import Derived.Test.YtjifihffjmbjfaaGreatCO2
import Derived.Test.YtjifihffjmbjfaaGreatAwk12
import Derived.Test.YtjifihffjmbjfaaGreatVin
set_option linter.unusedVariables false
namespace Go.Proofs.YtjifihffjmbjfaaGreat
open Go.Eng

/-- A raw job as it comes in. -/
structure CRawIn (w : World) (p : Bodegalaw12RawR) (rl wl : List Int) : Prop where
  a : I64 p.Client
  b : I64 p.Seq
  c : I64 p.Lines
  d : I64 p.Mask
  e : I64 p.Spoil
  f : I64 p.At
  rd : Rd w p.Reads (is rl)
  rlen : p.Reads_l = rl.length
  ri : ∀ x ∈ rl, I64 x
  wd : Rd w p.Writes (is wl)
  wlen : p.Writes_l = wl.length
  wi : ∀ x ∈ wl, I64 x

set_option maxRecDepth 100000 in
theorem CommitValid_c (w : World) {p0 : CommitJobR} {p1 : Bodegalaw12RawR} {v : Vw} {X : List ApiSeenR} {Y : List ApiPageR} {rl wl : List Int} (hv : VIn w p0.View v) (hr : Rd w p0.Reads (snrows X).flatten) (hrl : p0.Reads_l = X.length) (hy : Rd w p0.Writes (pgrows Y).flatten) (hyl : p0.Writes_l = Y.length) (hyu : ∀ x ∈ Y, U64 x.Head) (hp : CRawIn w p1 rl wl) :
    Does 5 [p0.val, p1.val] w fun x w' => x = .bool true ∧ New w w' := by
  refine does Tryz.func5 ?_
  rw [bodegalaw12_CommitValid_vc]
  rintro b1 w1 hb1 hw1
  obtain ⟨hz1, hn1⟩ := box_new hb1 hw1
  have hz1 : Blk w1 b1 p0.cells TCJ := hz1
  clear hw1
  rintro b2 w2 hb2 hw2
  obtain ⟨hz2, hn2⟩ := box_new hb2 hw2
  have hz2 : Blk w2 b2 p1.cells TR12 := hz2
  clear hw2
  have hz12 := New.blk hn2 hz1
  have hn := hn1.new hn2
  refine ⟨_, _, _, hz12.cell (i := 4) rfl, bif_dec (fun _ => ⟨rfl, hn⟩) (fun h8 => ⟨_, _, _, hz12.cell (i := 5) rfl, bif_dec (fun _ => ⟨rfl, hn⟩) (fun h40 => ⟨_, _, _, hz12.cell (i := 6) rfl, bif_dec (fun _ => ⟨rfl, hn⟩) (fun h20 => ⟨_, _, _, hz2.cell (i := 6) rfl, bif_dec (fun _ => ⟨rfl, hn⟩) (fun hr8 => ⟨_, _, _, hz2.cell (i := 7) rfl, bif_dec (fun _ => ⟨rfl, hn⟩) (fun hw8 => ?_)⟩)⟩)⟩)⟩)⟩
  have hj : CJobAt w p0 ⟨p0.Client, p0.Seq, p0.Lines, v, X, Y⟩ := ⟨rfl, rfl, rfl, ⟨NoM, hv.at (by have := hv.len; omega)⟩, hr, hrl, by show X.length ≤ _; omega, ⟨hy, hyl, by show Y.length ≤ _; omega, hyu⟩⟩
  have hp' : CRaw w p1 rl wl := ⟨hp.a, hp.b, hp.c, hp.d, hp.e, hp.f, hp.rd, hp.rlen, by have := hp.rlen; omega, hp.ri, hp.wd, hp.wlen, by have := hp.wlen; omega, hp.wi⟩
  refine Bodegalaw12RawR.mk_ex p1 ⟨cellsAt_blk hz2 rfl, ?_⟩
  refine at_call (Of_c w2 (hp'.new hn) (n := 3) (by omega) (by omega)) ?_
  rintro x w3 ⟨r, j, rfl, hrj, hn3⟩
  refine CommitJobR.mk_ex r ⟨rfl, ?_⟩
  refine box_k (vs := r.cells) rfl (CommitJobR.single _) fun b3 w5 hb3 hz3 hn5 => ?_
  rintro w6 hw6
  have hn6 : New w5 w6 := by rw [hw6]; exact new_drew _
  clear hw6
  refine ⟨fun y => New w6 y, Keep.refl _ _, ?_⟩
  have h16 := New.blk (hn3.new (hn5.new hn6)) hz12
  have h36 := New.blk hn6 hz3
  have hn06 := hn.new (hn3.new (hn5.new hn6))
  refine at_call (Go.Mx.awake12_c w6) ?_
  rintro x w7 ⟨rfl, hn7⟩
  refine ⟨_, rfl, hn7, bif_t rfl ?_⟩
  refine CommitJobR.mk_ex p0 ⟨fun y hy => cellsAt_blk (New.blk hy h16) rfl, CommitJobR.mk_ex p0 ⟨fun y hy => cellsAt_blk (New.blk hy h16) rfl, ?_⟩⟩
  refine at_call (CValid_c (hj.new (hn06.new hn7))) ?_
  rintro x w8 ⟨rfl, hn8⟩
  refine ⟨_, rfl, hn7.new hn8, ?_⟩
  refine at_call (Own_c w8 p0) ?_
  rintro x w9 ⟨rfl, hn9⟩
  refine Bodegaref9CommitJobR.mk_ex (refJob p0) ⟨rfl, (hn7.new hn8).new hn9, ?_⟩
  refine at_call (RCommit_c (hj.new (((hn06.new hn7).new hn8).new hn9))) ?_
  rintro x w10 ⟨rfl, hn10⟩
  have hn610 := ((hn7.new hn8).new hn9).new hn10
  refine ⟨_, rfl, hn610, bif_t (by simp) ?_⟩
  refine CommitJobR.mk_ex r ⟨fun y hy => cellsAt_blk (New.blk hy h36) rfl, CommitJobR.mk_ex r ⟨fun y hy => cellsAt_blk (New.blk hy h36) rfl, ?_⟩⟩
  have hrj10 := hrj.new ((hn5.new hn6).new hn610)
  refine at_call (CValid_c hrj10) ?_
  rintro x w11 ⟨rfl, hn11⟩
  refine ⟨_, rfl, hn610.new hn11, ?_⟩
  refine at_call (Own_c w11 r) ?_
  rintro x w12 ⟨rfl, hn12⟩
  refine Bodegaref9CommitJobR.mk_ex (refJob r) ⟨rfl, (hn610.new hn11).new hn12, ?_⟩
  refine at_call (RCommit_c (hrj10.new (hn11.new hn12))) ?_
  rintro x w13 ⟨rfl, hn13⟩
  exact ⟨_, rfl, ((hn610.new hn11).new hn12).new hn13, by simp, hn06.new (((hn610.new hn11).new hn12).new hn13)⟩
end Go.Proofs.YtjifihffjmbjfaaGreat
