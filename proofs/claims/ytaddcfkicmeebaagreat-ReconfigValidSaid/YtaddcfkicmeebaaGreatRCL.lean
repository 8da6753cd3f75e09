/- The law ReconfigValid. -/
import Derived.Test.YtaddcfkicmeebaaGreatRC
import Derived.Test.YtaddcfkicmeebaaGreatAwk14
set_option linter.unusedVariables false
namespace Go.Proofs.YtaddcfkicmeebaaGreat
open Go.Eng

abbrev TrueNew (w : World) : Value → World → Prop := fun x w' => x = .bool true ∧ New w w'

set_option maxRecDepth 100000 in
/-- Behind the two jobs. -/
theorem rcTail {w u : World} {b1 b2 : Nat} {p r : ReconfigJobR} (h1 : Blk u b1 p.cells TRC) (h2 : Blk u b2 r.cells TRC) (hn : New w u) : ∀ w7, w7 = u.drew → ∃ Sx1 : World → Prop, Sx1 w7 ∧ Calls Tryz.prog 6 #[] w7 fun e w8 => ∃ (b : Bool), e = .returned (.bool b) ∧ Sx1 w8 ∧
    (bif b then (ReconfigJobR.ex fun r1 => (∀ u, Sx1 u → cellsAt u ⟨b1, 0, none⟩ 0 r1.cells) ∧ ReconfigJobR.ex fun r2 => (∀ u, Sx1 u → cellsAt u ⟨b1, 0, none⟩ 0 r2.cells) ∧ Calls Tryz.prog 7 #[r1.val] w8 fun e w9 => ∃ (c : Int), e = .returned (.int .i64 c) ∧ Sx1 w9 ∧
      Calls Tryz.prog 9 #[r2.val] w9 fun e x => Bodegaref9ReconfigJobR.ex fun y => e = .returned y.val ∧ Sx1 x ∧ Calls Tryz.prog 8 #[y.val] x fun e z => ∃ (d : Int), e = .returned (.int .i64 d) ∧ Sx1 z ∧
        (bif ((c : Int) == d) then (ReconfigJobR.ex fun r3 => (∀ u, Sx1 u → cellsAt u ⟨b2, 0, none⟩ 0 r3.cells) ∧ ReconfigJobR.ex fun r4 => (∀ u, Sx1 u → cellsAt u ⟨b2, 0, none⟩ 0 r4.cells) ∧ Calls Tryz.prog 7 #[r3.val] z fun e aa => ∃ (f : Int), e = .returned (.int .i64 f) ∧ Sx1 aa ∧
          Calls Tryz.prog 9 #[r4.val] aa fun e ab => Bodegaref9ReconfigJobR.ex fun ac => e = .returned ac.val ∧ Sx1 ab ∧ Calls Tryz.prog 8 #[ac.val] ab fun e ad => ∃ (g : Int), e = .returned (.int .i64 g) ∧ Sx1 ad ∧ TrueNew w (.bool ((f : Int) == g)) ad) else (TrueNew w (.bool false) z))) else (TrueNew w (.bool false) w8)) := by
  rintro w6 hw6
  have hn6 : New u w6 := by rw [hw6]; exact new_drew _
  clear hw6
  refine ⟨fun y => New w6 y, Keep.refl _ _, ?_⟩
  have h1 := New.blk hn6 h1
  have h2 := New.blk hn6 h2
  have hn := hn.new hn6
  refine at_call (Go.Mx.awake14_c w6) ?_
  rintro x w7 ⟨rfl, hn7⟩
  refine ⟨_, rfl, hn7, bif_t rfl ?_⟩
  refine ReconfigJobR.mk_ex p ⟨fun y hy => cellsAt_blk (New.blk hy h1) rfl, ReconfigJobR.mk_ex p ⟨fun y hy => cellsAt_blk (New.blk hy h1) rfl, ?_⟩⟩
  refine at_call (RCValid_c w7 p) ?_
  rintro x w8 ⟨rfl, hn8⟩
  refine ⟨_, rfl, hn7.new hn8, ?_⟩
  refine at_call (RCOwn_c w8 p) ?_
  rintro x w9 ⟨rfl, hn9⟩
  refine Bodegaref9ReconfigJobR.mk_ex (refRC p) ⟨rfl, (hn7.new hn8).new hn9, ?_⟩
  refine at_call (RCRef_c w9 p) ?_
  rintro x w10 ⟨rfl, hn10⟩
  have hn610 := ((hn7.new hn8).new hn9).new hn10
  refine ⟨_, rfl, hn610, bif_t (by simp) ?_⟩
  refine ReconfigJobR.mk_ex r ⟨fun y hy => cellsAt_blk (New.blk hy h2) rfl, ReconfigJobR.mk_ex r ⟨fun y hy => cellsAt_blk (New.blk hy h2) rfl, ?_⟩⟩
  refine at_call (RCValid_c w10 r) ?_
  rintro x w11 ⟨rfl, hn11⟩
  refine ⟨_, rfl, hn610.new hn11, ?_⟩
  refine at_call (RCOwn_c w11 r) ?_
  rintro x w12 ⟨rfl, hn12⟩
  refine Bodegaref9ReconfigJobR.mk_ex (refRC r) ⟨rfl, (hn610.new hn11).new hn12, ?_⟩
  refine at_call (RCRef_c w12 r) ?_
  rintro x w13 ⟨rfl, hn13⟩
  exact ⟨_, rfl, ((hn610.new hn11).new hn12).new hn13, by simp, hn.new (((hn610.new hn11).new hn12).new hn13)⟩

theorem pick_m1 {n : Int} : I64 (IntKind.i64.wrap ((if (8 : Int) < 1 then 0 else n % 8) - 1)) := by
  have := Int.emod_nonneg n (b := 8) (by omega)
  have := Int.emod_lt_of_pos n (b := 8) (by omega)
  rw [if_neg (by omega), w64 (by omega) (by omega)]
  exact ⟨by omega, by omega⟩

set_option maxRecDepth 100000 in
theorem ReconfigValid_c (w : World) {p : ReconfigJobR} (hp : RCIn p) {n : Int} (hn0 : I64 n) : Does 3 [p.val, .int .i64 n] w (TrueNew w) := by
  refine does Tryz.func3 ?_
  rw [bodegalaw14_ReconfigValid_vc]
  rintro b1 w1 hb1 hw1
  obtain ⟨hz1, hn1⟩ := box_new hb1 hw1
  have hz1 : Blk w1 b1 p.cells TRC := hz1
  clear hw1
  rintro w2 hw2
  have hn2 : New w1 w2 := by rw [hw2]; exact new_drew _
  clear hw2
  have hz1 := New.blk hn2 hz1
  have hn := hn1.new hn2
  refine ⟨fun y => New w2 y, Keep.refl _ _, ReconfigJobR.mk_ex p ⟨fun y hy => cellsAt_blk (New.blk hy hz1) rfl, ?_, ?_⟩⟩
  · refine at_call (Pick_c w2 n 8 hn0 (by omega)) ?_
    rintro x w3 ⟨rfl, rfl⟩
    refine ⟨_, rfl, Keep.refl _ _, ?_, ?_⟩
    · refine at_call (Near_c w3 hp pick_m1) ?_
      rintro x w4 ⟨r, rfl, hn4⟩
      refine ReconfigJobR.mk_ex r ⟨rfl, hn4, ?_⟩
      rintro b2 w5 hb2 hw5
      obtain ⟨hz2, hn5⟩ := box_new hb2 hw5
      have hz2 : Blk w5 b2 (ReconfigJobR.cells ⟨0, 0, 0, 0⟩) TRC := hz2
      clear hw5
      refine ⟨hn4.new hn5, ?_⟩
      refine put_k (vs := r.cells) hz2 rfl (ReconfigJobR.single _) fun w6 hz6 hk6 => ?_
      have hn6 : New w4 w6 := hn5.trans hk6 fun k hlt e => by omega
      exact rcTail (New.blk (hn4.new hn6) hz1) hz6 (hn.new (hn4.new hn6))
    · rintro b3 w4 hb3 hw4
      obtain ⟨hz3, hn4⟩ := box_new hb3 hw4
      have hz3 : Blk w4 b3 (ReconfigJobR.cells ⟨0, 0, 0, 0⟩) TRC := hz3
      clear hw4
      refine ⟨hn4, ?_⟩
      refine at_call (Near_c w4 hp pick_m1) ?_
      rintro x w5 ⟨r, rfl, hn5⟩
      refine ReconfigJobR.mk_ex r ⟨rfl, ?_⟩
      refine put_k (vs := r.cells) (New.blk hn5 hz3) rfl (ReconfigJobR.single _) fun w6 hz6 hk6 => ?_
      have hn6 : New w3 w6 := (hn4.new hn5).trans hk6 fun k hlt e => by omega
      exact rcTail (New.blk hn6 hz1) hz6 (hn.new hn6)
  · rintro b3 w4 hb3 hw4
    obtain ⟨hz3, hn4⟩ := box_new hb3 hw4
    have hz3 : Blk w4 b3 (ReconfigJobR.cells ⟨0, 0, 0, 0⟩) TRC := hz3
    clear hw4
    refine ⟨hn4, ?_⟩
    refine at_call (Pick_c w4 n 8 hn0 (by omega)) ?_
    rintro x w4' ⟨rfl, rfl⟩
    refine ⟨_, rfl, hn4, ?_⟩
    refine at_call (Near_c _ hp pick_m1) ?_
    rintro x w5 ⟨r, rfl, hn5⟩
    refine ReconfigJobR.mk_ex r ⟨rfl, ?_⟩
    refine put_k (vs := r.cells) (New.blk hn5 hz3) rfl (ReconfigJobR.single _) fun w6 hz6 hk6 => ?_
    have hn6 : New w2 w6 := (hn4.new hn5).trans hk6 fun k hlt e => by omega
    exact rcTail (New.blk hn6 hz1) hz6 (hn.new hn6)
end Go.Proofs.YtaddcfkicmeebaaGreat
