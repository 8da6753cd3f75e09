/- The law RecoveryValid, up to the sanity check (a hypothesis here: awake13 is not proved yet). -/
import Derived.Test.YtppcleiekdbndaaGreatRV4
import Derived.Test.YtppcleiekdbndaaGreatVin
set_option linter.unusedVariables false
namespace Go.Proofs.YtppcleiekdbndaaGreat
open Go.Eng

set_option maxRecDepth 100000 in
theorem RecoveryValid_of (hA : ∀ w, Does 18 [] w fun v w' => v = .bool true ∧ New w w') (w : World) {p0 : RecoveryJobR} {p1 : Bodegalaw13RawR} {v : Vw} (hv : VIn w p0.View v) (hu : U64 p0.Prev) (hp : R13Raw p1) :
    Does 5 [p0.val, p1.val] w fun x w' => x = .bool true ∧ New w w' := by
  refine does Tryz.func5 ?_
  rw [bodegalaw13_RecoveryValid_vc]
  rintro b1 w1 hb1 hw1
  obtain ⟨hz1, hn1⟩ := box_new hb1 hw1
  have hz1 : Blk w1 b1 p0.cells TRJ := hz1
  clear hw1
  rintro b2 w2 hb2 hw2
  obtain ⟨hz2, hn2⟩ := box_new hb2 hw2
  have hz2 : Blk w2 b2 p1.cells TR13 := hz2
  clear hw2
  have hz12 := New.blk hn2 hz1
  have hn := hn1.new hn2
  refine ⟨_, _, _, hz12.cell (i := 4) rfl, bif_dec (fun _ => ⟨rfl, hn⟩) (fun h8 => ?_)⟩
  have hj : RJobAt w p0 ⟨p0.Client, p0.Inc, p0.Lines, v, p0.Dead, p0.Door, p0.Prev⟩ := ⟨rfl, rfl, rfl, ⟨NoM, hv.at (by have := hv.len; omega)⟩, rfl, rfl, rfl, hu⟩
  refine Bodegalaw13RawR.mk_ex p1 ⟨cellsAt_blk hz2 rfl, ?_⟩
  refine at_call (ROf_c w2 hp (n := 3) (by omega) (by omega)) ?_
  rintro x w3 ⟨r, j, rfl, hrj, hn3⟩
  refine RecoveryJobR.mk_ex r ⟨rfl, ?_⟩
  refine box_k (vs := r.cells) rfl (RecoveryJobR.single _) fun b3 w5 hb3 hz3 hn5 => ?_
  rintro w6 hw6
  have hn6 : New w5 w6 := by rw [hw6]; exact new_drew _
  clear hw6
  refine ⟨fun y => New w6 y, Keep.refl _ _, ?_⟩
  have h16 := New.blk (hn3.new (hn5.new hn6)) hz12
  have h36 := New.blk hn6 hz3
  have hn06 := hn.new (hn3.new (hn5.new hn6))
  refine at_call (hA w6) ?_
  rintro x w7 ⟨rfl, hn7⟩
  refine ⟨_, rfl, hn7, bif_t rfl ?_⟩
  refine RecoveryJobR.mk_ex p0 ⟨fun y hy => cellsAt_blk (New.blk hy h16) rfl, RecoveryJobR.mk_ex p0 ⟨fun y hy => cellsAt_blk (New.blk hy h16) rfl, ?_⟩⟩
  refine at_call (R13Valid_c (hj.new (hn06.new hn7))) ?_
  rintro x w8 ⟨rfl, hn8⟩
  refine ⟨_, rfl, hn7.new hn8, ?_⟩
  refine at_call (ROwn_c w8 p0) ?_
  rintro x w9 ⟨rfl, hn9⟩
  refine Bodegaref9RecoverJobR.mk_ex (refRJob p0) ⟨rfl, (hn7.new hn8).new hn9, ?_⟩
  refine at_call (R13Ref_c (hj.new (((hn06.new hn7).new hn8).new hn9))) ?_
  rintro x w10 ⟨rfl, hn10⟩
  have hn610 := ((hn7.new hn8).new hn9).new hn10
  refine ⟨_, rfl, hn610, bif_t (by simp) ?_⟩
  refine RecoveryJobR.mk_ex r ⟨fun y hy => cellsAt_blk (New.blk hy h36) rfl, RecoveryJobR.mk_ex r ⟨fun y hy => cellsAt_blk (New.blk hy h36) rfl, ?_⟩⟩
  have hrj10 := hrj.new ((hn5.new hn6).new hn610)
  refine at_call (R13Valid_c hrj10) ?_
  rintro x w11 ⟨rfl, hn11⟩
  refine ⟨_, rfl, hn610.new hn11, ?_⟩
  refine at_call (ROwn_c w11 r) ?_
  rintro x w12 ⟨rfl, hn12⟩
  refine Bodegaref9RecoverJobR.mk_ex (refRJob r) ⟨rfl, (hn610.new hn11).new hn12, ?_⟩
  refine at_call (R13Ref_c (hrj10.new (hn11.new hn12))) ?_
  rintro x w13 ⟨rfl, hn13⟩
  exact ⟨_, rfl, ((hn610.new hn11).new hn12).new hn13, by simp, hn06.new (((hn610.new hn11).new hn12).new hn13)⟩
end Go.Proofs.YtppcleiekdbndaaGreat
