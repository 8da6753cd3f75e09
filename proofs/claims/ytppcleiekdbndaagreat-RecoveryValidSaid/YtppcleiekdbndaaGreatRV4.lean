/- The job of raw numbers of package recovery's laws. -/
import Derived.Test.YtppcleiekdbndaaGreatRV3
import Derived.Test.YtppcleiekdbndaaGreatIh
set_option linter.unusedVariables false
namespace Go.Proofs.YtppcleiekdbndaaGreat
open Go.Eng

abbrev TRJ : TypeId := 58
abbrev TR13 : TypeId := 60
def zrj : List Value := RecoveryJobR.cells ⟨0, 0, 0, ⟨0, none, 0, 0⟩, 0, 0, 0⟩

structure R13Raw (p : Bodegalaw13RawR) : Prop where
  a : I64 p.Client
  b : I64 p.Inc
  c : I64 p.Lines
  d : I64 p.Mask
  e : I64 p.Dead
  f : I64 p.Door
  g : I64 p.P
  h : I64 p.Q
  i : I64 p.Spoil
  j : I64 p.At

structure ROf (w u : World) (b1 b2 b3 : Nat) (p : Bodegalaw13RawR) (q : RecoveryJobR) (v : Vw) : Prop where
  new : New w u
  h1 : Blk u b1 p.cells TR13
  h2 : Blk u b2 zrj TRJ
  h3 : Blk u b3 q.cells TRJ
  lo : w.heap.size ≤ b1 ∧ b1 < b2 ∧ b2 < b3
  view : ViewAt (fun k => k = b1 ∨ k = b2 ∨ k = b3) u q.View v
  u64 : U64 q.Prev

abbrev ROfPost (w : World) : Value → World → Prop := fun x w' => ∃ r j, x = RecoveryJobR.val r ∧ RJobAt w' r j ∧ New w w'

variable {w u u' : World} {b1 b2 b3 : Nat} {p : Bodegalaw13RawR} {q : RecoveryJobR} {v : Vw}

theorem ROf.nw (h : ROf w u b1 b2 b3 p q v) (hn : New u u') : ROf w u' b1 b2 b3 p q v := ⟨h.new.new hn, New.blk hn h.h1, New.blk hn h.h2, New.blk hn h.h3, h.lo, h.view.new hn, h.u64⟩

theorem ROf.set (h : ROf w u b1 b2 b3 p q v) (hk : Keep (fun k => k = b3) u u') {x : RecoveryJobR} (h3 : Blk u' b3 x.cells TRJ) (hv : x.View = q.View) (hu : U64 x.Prev) : ROf w u' b1 b2 b3 p x v := by
  have := h.lo
  exact ⟨h.new.trans hk fun k hlt e => by omega, hk.blk h.h1 (by omega), hk.blk h.h2 (by omega), h3, h.lo, by rw [hv]; exact h.view.keep hk fun k e => .inr (.inr e), hu⟩

theorem ROf.out (h : ROf w u b1 b2 b3 p q v) : RecoveryJobR.ex fun r => cellsAt u ⟨b3, 0, none⟩ 0 r.cells ∧ wrAt u ⟨b2, 0, none⟩ 0 r.cells ∧ ∀ w4, w4 = puts u ⟨b2, 0, none⟩ 0 r.cells → RecoveryJobR.ex fun res => cellsAt w4 ⟨b2, 0, none⟩ 0 res.cells ∧ w4 = w4 ∧ ROfPost w res.val w4 := by
  have := h.lo
  exact out_k (cells := RecoveryJobR.cells) (ex := RecoveryJobR.ex) (fun K r h => RecoveryJobR.mk_ex r h) RecoveryJobR.single (r := q) h.h2 rfl h.h3 (K := fun r w' => ROfPost w r.val w') fun w' hk' =>
    ⟨q, ⟨q.Client, q.Inc, q.Lines, v, q.Dead, q.Door, q.Prev⟩, rfl, ⟨rfl, rfl, rfl, ⟨_, h.view.keep hk' fun k e => .inr (.inl e)⟩, rfl, rfl, rfl, h.u64⟩, h.new.trans hk' fun k hlt e => by omega⟩

theorem u64w (x : Int) : U64 (IntKind.u64.wrap x) := by
  unfold U64
  simp only [IntKind.wrap, IntKind.bits, IntKind.signed]
  simp
  omega

set_option maxHeartbeats 1000000 in
theorem A5 (h : ROf w u b1 b2 b3 p q v) (hp : R13Raw p) (jj : List Value) : W Tryz.prog (sub (bodyOf Tryz.f17) [1, 1, 1, 1, 1, 1]) (bodegalaw13_of_aft5 ⟨b1, 0, none⟩ ⟨b2, 0, none⟩ ⟨b3, 0, none⟩ jj) (retQ Tryz.prog Tryz.f17 (ROfPost w)) u := by
  refine qr_q (R := ROfPost w) (fun _ _ => rfl) ?_
  rw [bodegalaw13_of_aft5_vc]
  refine ⟨_, h.h1.cell (i := 8) rfl, ?_⟩
  refine at_call (Pick_c u p.Spoil 20 hp.i (by omega)) ?_
  rintro x u2 ⟨rfl, rfl⟩
  generalize (if (20 : Int) < 1 then 0 else p.Spoil % 20) = s
  refine ⟨_, rfl, bif_beq (fun _ => ⟨_, h.h1.cell (i := 9) rfl, ?_⟩) (fun _ => bif_beq (fun _ => ⟨_, h.h1.cell (i := 9) rfl, ?_⟩) (fun _ => bif_beq (fun _ => ⟨_, h.h1.cell (i := 9) rfl, ?_⟩) (fun _ => bif_beq (fun _ => ⟨_, h.h1.cell (i := 9) rfl, ?_⟩) (fun _ => bif_beq (fun _ => ⟨_, h.h1.cell (i := 9) rfl, ?_⟩) (fun _ => bif_beq (fun _ => ⟨_, h.h1.cell (i := 9) rfl, ?_⟩) (fun _ => h.out))))))⟩
  · refine at_call (Pick_c u2 p.At 9 hp.j (by omega)) ?_
    rintro x u3 ⟨rfl, rfl⟩
    generalize (if (9 : Int) < 1 then 0 else p.At % 9) = k
    exact ⟨_, rfl, setv_k (b := b3) h.h3 (o := 0) (by simp [RecoveryJobR.cells]) fun u4 h34 hk4 => (h.set hk4 (x := ⟨IntKind.i64.wrap (k - 1), q.Inc, q.Lines, q.View, q.Dead, q.Door, q.Prev⟩) h34 rfl h.u64).out⟩
  · refine at_call (Pick_c u2 p.At 205 hp.j (by omega)) ?_
    rintro x u3 ⟨rfl, rfl⟩
    generalize (if (205 : Int) < 1 then 0 else p.At % 205) = k
    exact ⟨_, rfl, setv_k (b := b3) h.h3 (o := 1) (by simp [RecoveryJobR.cells]) fun u4 h34 hk4 => (h.set hk4 (x := ⟨q.Client, IntKind.i64.wrap (k - 2), q.Lines, q.View, q.Dead, q.Door, q.Prev⟩) h34 rfl h.u64).out⟩
  · refine at_call (Pick_c u2 p.At 9 hp.j (by omega)) ?_
    rintro x u3 ⟨rfl, rfl⟩
    generalize (if (9 : Int) < 1 then 0 else p.At % 9) = k
    exact ⟨_, rfl, setv_k (b := b3) h.h3 (o := 5) (by simp [RecoveryJobR.cells]) fun u4 h34 hk4 => (h.set hk4 (x := ⟨q.Client, q.Inc, q.Lines, q.View, IntKind.i64.wrap (k - 1), q.Door, q.Prev⟩) h34 rfl h.u64).out⟩
  · refine at_call (Pick_c u2 p.At 205 hp.j (by omega)) ?_
    rintro x u3 ⟨rfl, rfl⟩
    generalize (if (205 : Int) < 1 then 0 else p.At % 205) = k
    exact ⟨_, rfl, setv_k (b := b3) h.h3 (o := 6) (by simp [RecoveryJobR.cells]) fun u4 h34 hk4 => (h.set hk4 (x := ⟨q.Client, q.Inc, q.Lines, q.View, q.Dead, IntKind.i64.wrap (k - 2), q.Prev⟩) h34 rfl h.u64).out⟩
  · refine at_call (Pick_c u2 p.At 2000 hp.j (by omega)) ?_
    rintro x u3 ⟨rfl, rfl⟩
    generalize (if (2000 : Int) < 1 then 0 else p.At % 2000) = k
    exact ⟨_, rfl, setv_k (b := b3) h.h3 (o := 7) (by simp [RecoveryJobR.cells]) fun u4 h34 hk4 => (h.set hk4 (x := ⟨q.Client, q.Inc, q.Lines, q.View, q.Dead, q.Door, IntKind.u64.wrap k⟩) h34 rfl (u64w k)).out⟩
  · refine at_call (Pick_c u2 p.At 300 hp.j (by omega)) ?_
    rintro x u3 ⟨rfl, rfl⟩
    generalize (if (300 : Int) < 1 then 0 else p.At % 300) = k
    exact ⟨_, rfl, setv_k (b := b3) h.h3 (o := 2) (by simp [RecoveryJobR.cells]) fun u4 h34 hk4 => (h.set hk4 (x := ⟨q.Client, q.Inc, k, q.View, q.Dead, q.Door, q.Prev⟩) h34 rfl h.u64).out⟩

theorem tagV_u64 (i c : Int) : U64 (tagV i c) := by
  unfold tagV
  split
  · rename_i e
    have := tagE_zero e
    exact ⟨by omega, by omega⟩
  · exact ⟨by omega, by omega⟩

theorem A4 (h : ROf w u b1 b2 b3 p q v) (hp : R13Raw p) (jj : List Value) : W Tryz.prog (sub (bodyOf Tryz.f17) [1, 1, 1, 1, 1]) (bodegalaw13_of_aft4 ⟨b1, 0, none⟩ ⟨b2, 0, none⟩ ⟨b3, 0, none⟩ jj) (retQ Tryz.prog Tryz.f17 (ROfPost w)) u := by
  rw [bodegalaw13_of_aft4_split]
  refine qr_q (R := ROfPost w) (fun _ _ => rfl) ?_
  rw [bodegalaw13_of_aft4_vc]
  refine ⟨_, h.h1.cell (i := 6) rfl, ?_⟩
  refine at_call (Pick_c u p.P 3 hp.g (by omega)) ?_
  rintro x u2 ⟨rfl, rfl⟩
  refine ⟨_, rfl, bif_dec (fun _ => ?_) (fun _ => seqQ_n (A5 h hp _))⟩
  rintro u3 hu3
  have hn3 : New u2 u3 := by rw [hu3]; exact new_drew _
  clear hu3
  have h3 := h.nw hn3
  refine ⟨fun y => New u3 y, Keep.refl _ _, _, fun y hy => (New.blk hy h3.h1).cell (i := 6) rfl, _, fun y hy => (New.blk hy h3.h1).cell (i := 7) rfl, ?_⟩
  refine at_call (Pick_c u3 p.P 3 hp.g (by omega)) ?_
  rintro x u4 ⟨rfl, rfl⟩
  refine ⟨_, rfl, Keep.refl _ _, ?_⟩
  refine at_call (Pick_c u4 p.Q 6 hp.h (by omega)) ?_
  rintro x u5 ⟨rfl, rfl⟩
  refine ⟨_, rfl, Keep.refl _ _, ?_⟩
  generalize (IntKind.i64.wrap (_ + 1)) = ti
  generalize (if (6 : Int) < 1 then 0 else p.Q % 6) = tc
  refine at_call (RTag_c u5 ti tc) ?_
  rintro x u6 ⟨rfl, rfl⟩
  exact ⟨_, _, rfl, Keep.refl _ _, setv_k (b := b3) h3.h3 (o := 7) (by simp [RecoveryJobR.cells]) fun u7 h37 hk7 => seqQ_n (A5 (h3.set hk7 (x := ⟨q.Client, q.Inc, q.Lines, q.View, q.Dead, q.Door, tagV ti tc⟩) h37 rfl (tagV_u64 _ _)) hp _)⟩

theorem A3 (h : ROf w u b1 b2 b3 p q v) (hp : R13Raw p) (jj : List Value) : W Tryz.prog (sub (bodyOf Tryz.f17) [1, 1, 1, 1]) (bodegalaw13_of_aft3 ⟨b1, 0, none⟩ ⟨b2, 0, none⟩ ⟨b3, 0, none⟩ jj) (retQ Tryz.prog Tryz.f17 (ROfPost w)) u := by
  rw [bodegalaw13_of_aft3_split]
  refine qr_q (R := ROfPost w) (fun _ _ => rfl) ?_
  rw [bodegalaw13_of_aft3_vc]
  refine ⟨_, h.h3.cell (i := 5) rfl, _, h.h3.cell (i := 0) rfl, bif_beq (fun _ => ⟨_, h.h3.cell (i := 1) rfl, ?_⟩) (fun _ => seqQ_n (A4 h hp _))⟩
  exact setv_k (b := b3) h.h3 (o := 6) (by simp [RecoveryJobR.cells]) fun u7 h37 hk7 => seqQ_n (A4 (h.set hk7 (x := ⟨q.Client, q.Inc, q.Lines, q.View, q.Dead, q.Inc, q.Prev⟩) h37 rfl h.u64) hp _)

theorem A2 (h : ROf w u b1 b2 b3 p q v) (hp : R13Raw p) (jj : List Value) : W Tryz.prog (sub (bodyOf Tryz.f17) [1, 1, 1]) (bodegalaw13_of_aft2 ⟨b1, 0, none⟩ ⟨b2, 0, none⟩ ⟨b3, 0, none⟩ jj) (retQ Tryz.prog Tryz.f17 (ROfPost w)) u := by
  refine qr_q (R := ROfPost w) (fun _ _ => rfl) ?_
  rw [bodegalaw13_of_aft2_vc]
  refine ⟨_, h.h1.cell (i := 5) rfl, ?_⟩
  refine at_call (Pick_c u p.Door 4 hp.f (by omega)) ?_
  rintro x u2 ⟨rfl, rfl⟩
  generalize (if (4 : Int) < 1 then 0 else p.Door % 4) = k
  exact ⟨_, rfl, setv_k (b := b3) h.h3 (o := 6) (by simp [RecoveryJobR.cells]) fun u7 h37 hk7 => qr_r (fun _ _ => rfl) (A3 (h.set hk7 (x := ⟨q.Client, q.Inc, q.Lines, q.View, q.Dead, IntKind.i64.wrap (IntKind.i64.wrap (2 * k) + 2), q.Prev⟩) h37 rfl h.u64) hp _)⟩

theorem A1 (h : ROf w u b1 b2 b3 p q v) (hp : R13Raw p) {n : Int} (h1n : 1 ≤ n) (h5n : n ≤ 5) (jj : List Value) : W Tryz.prog (sub (bodyOf Tryz.f17) [1, 1]) (bodegalaw13_of_aft1 n ⟨b1, 0, none⟩ ⟨b2, 0, none⟩ ⟨b3, 0, none⟩ jj) (retQ Tryz.prog Tryz.f17 (ROfPost w)) u := by
  rw [bodegalaw13_of_aft1_split]
  refine qr_q (R := ROfPost w) (fun _ _ => rfl) ?_
  rw [bodegalaw13_of_aft1_vc]
  refine ⟨_, h.h1.cell (i := 3) rfl, ?_⟩
  refine at_call (Pick_c u p.Mask 3 hp.d (by omega)) ?_
  rintro x u2 ⟨rfl, rfl⟩
  refine ⟨_, rfl, bif_dec (fun _ => ⟨_, h.h1.cell (i := 3) rfl, ?_⟩) (fun _ => seqQ_n (A2 h hp _))⟩
  refine at_call (HView_c u2 (number := 0) (full := 31) (n := n) (boots := []) ⟨by omega, by omega⟩ hp.d ⟨by omega, by omega⟩ (Rd.nil _ _) rfl (by simp) (by simp) (by omega) (by omega)) ?_
  rintro x u3 ⟨rv, v', rfl, hv, hn3, hgv⟩
  refine ApiViewR.mk_ex rv ⟨rfl, ?_⟩
  have h3 := h.nw hn3
  have hl3 := h.h3.lt
  have hlo := h.lo
  refine ⟨wrAt_blk h3.h3 (by simp [RecoveryJobR.cells, ApiViewR.cells]) (ApiViewR.single _), fun w9 hw9 => seqQ_n (A2 (q := ⟨q.Client, q.Inc, q.Lines, rv, q.Dead, q.Door, q.Prev⟩) (v := v') ?_ hp _)⟩
  have hk9 : Keep (fun k => k = b3) u3 w9 := by rw [hw9]; exact keep_puts _ _ _ _ _
  have hz39 : Blk w9 b3 (RecoveryJobR.cells ⟨q.Client, q.Inc, q.Lines, rv, q.Dead, q.Door, q.Prev⟩) TRJ := by rw [hw9]; exact h3.h3.puts
  exact ⟨h3.new.trans hk9 fun k hlt e => by omega, hk9.blk h3.h1 (by omega), hk9.blk h3.h2 (by omega), hz39, h.lo, (hv.keep hk9 fun k e => by show k < _; omega).mono fun k hlt hm => by
    show k < _
    rcases hm with e | e | e <;> omega, h.u64⟩

theorem A0 {w8 : World} {cl inc li dead n : Int} {rs : ApiViewR} {vs : Vw} (hp : R13Raw p) (h1n : 1 ≤ n) (h5n : n ≤ 5) (hn8 : New w w8) (h1 : Blk w8 b1 p.cells TR13) (h2 : Blk w8 b2 zrj TRJ) (hlo : w.heap.size ≤ b1 ∧ b1 < b2 ∧ b2 < b3) (h3 : Blk w8 b3 zrj TRJ) (hv : ViewAt (fun k => k = b1 ∨ k = b2 ∨ k = b3) w8 rs vs) (jj : List Value) :
    wrAt w8 ⟨b3, 0, none⟩ 0 [.int .i64 cl, .int .i64 inc, .int .i64 li, .int .i64 rs.Number, .slice rs.Members rs.Members_l rs.Members_c, .int .i64 dead, .int .i64 0, .int .u64 0] ∧ ∀ w10, w10 = puts w8 ⟨b3, 0, none⟩ 0 [.int .i64 cl, .int .i64 inc, .int .i64 li, .int .i64 rs.Number, .slice rs.Members rs.Members_l rs.Members_c, .int .i64 dead, .int .i64 0, .int .u64 0] →
      W Tryz.prog (sub (bodyOf Tryz.f17) [1, 1]) (bodegalaw13_of_aft1 n ⟨b1, 0, none⟩ ⟨b2, 0, none⟩ ⟨b3, 0, none⟩ jj) (retQ Tryz.prog Tryz.f17 (ROfPost w)) w10 := by
  refine put_k (vs := RecoveryJobR.cells ⟨cl, inc, li, rs, dead, 0, 0⟩) h3 rfl (RecoveryJobR.single _) fun w9 hz9 hk9 => ?_
  exact A1 (q := ⟨cl, inc, li, rs, dead, 0, 0⟩) (v := vs) ⟨hn8.trans hk9 fun k hlt e => by omega, hk9.blk h1 (by omega), hk9.blk h2 (by omega), hz9, hlo, hv.keep hk9 fun k e => .inr (.inr e), ⟨by show (0:Int) ≤ 0; omega, by show (0:Int) < _; omega⟩⟩ hp h1n h5n _

set_option maxHeartbeats 4000000 in
set_option maxRecDepth 100000 in
/-- A job made of raw numbers. -/
theorem ROf_c (w : World) {p : Bodegalaw13RawR} (hp : R13Raw p) {n : Int} (h1n : 1 ≤ n) (h5n : n ≤ 5) : Does 17 [p.val, .int .i64 n] w (ROfPost w) := by
  refine does Tryz.func17 ?_
  rw [bodegalaw13_of_vc]
  rintro b1 w1 hb1 hw1
  obtain ⟨hz1, hn1⟩ := box_new hb1 hw1
  have hz1 : Blk w1 b1 p.cells TR13 := hz1
  clear hw1
  rintro b2 w2 hb2 hw2
  obtain ⟨hz2, hn2⟩ := box_new hb2 hw2
  have hz2 : Blk w2 b2 zrj TRJ := hz2
  clear hw2
  have hl1 := hz1.lt
  have hl2 := hz2.lt
  have hs1 := hn1.size
  rintro cw hw3
  have hn3 : New w2 cw := by rw [hw3]; exact new_drew _
  clear hw3
  have hz1 := New.blk (hn2.new hn3) hz1
  have hz2 := New.blk hn3 hz2
  have hn03 := (hn1.new hn2).new hn3
  have hs3 := hn3.size
  have hb12 : w.heap.size ≤ b1 ∧ b1 < b2 ∧ b2 < cw.heap.size := ⟨by omega, by omega, by omega⟩
  clear hb1 hb2 hl1 hl2 hs1 hn1 hn2 hn3 hs3
  refine ⟨fun y => New cw y, Keep.refl _ _, _, fun y hy => (New.blk hy hz1).cell (i := 0) rfl, _, fun y hy => (New.blk hy hz1).cell (i := 1) rfl, _, fun y hy => (New.blk hy hz1).cell (i := 2) rfl, _, fun y hy => (New.blk hy hz1).cell (i := 4) rfl, ?_⟩
  have hS : New cw cw := Keep.refl _ _
  refine ⟨?_, ?_⟩
  · skip
    refine at_call (Pick_c cw p.Client 6 hp.a (by omega)) ?_
    rintro x cw ⟨rfl, rfl⟩
    refine ⟨_, rfl, hS, ?_⟩
    refine ⟨?_, ?_⟩
    · skip
      refine at_call (Pick_c cw p.Inc 4 hp.b (by omega)) ?_
      rintro x cw ⟨rfl, rfl⟩
      refine ⟨_, rfl, hS, ?_⟩
      refine ⟨?_, ?_⟩
      · skip
        refine at_call (Lines_c cw hp.c) ?_
        rintro x cw ⟨li, rfl, hn98, hn104, rfl⟩
        refine ⟨_, rfl, hS, ?_⟩
        refine ⟨?_, ?_⟩
        · skip
          refine at_call (Start_c cw (n := n) h1n h5n) ?_
          have hs0 := hS.size
          rintro x cw' ⟨rs, vs, rfl, hvs, hn7, hgs, _⟩
          have hs7 := hn7.size
          have hv0 : ViewAt (fun k => k = b1 ∨ k = b2 ∨ cw'.heap.size ≤ k) cw' rs vs := hvs.mono fun k hlt hm => by
            show k < _
            rcases hm with e | e | e <;> omega
          have hS := hS.new hn7
          refine ApiViewR.mk_ex rs ⟨rfl, hS, ?_⟩
          clear hvs hn7 hs7
          revert hv0 hS
          generalize cw' = cw
          intro hv0 hS
          refine ⟨?_, ?_⟩
          · skip
            refine at_call (Pick_c cw p.Dead 6 hp.e (by omega)) ?_
            rintro x cw ⟨rfl, rfl⟩
            refine ⟨_, rfl, hS, ?_⟩
            rintro b3 w8 hb3 hw8
            obtain ⟨hz3, hn8⟩ := box_new hb3 hw8
            clear hw8
            have hz3 : Blk w8 b3 zrj TRJ := hz3
            have hs8 := hS.size
            have hb3b : b2 < b3 := by omega
            have hv : ViewAt (fun k => k = b1 ∨ k = b2 ∨ k = b3) w8 rs vs := (hv0.mono fun k hlt hm => by
              rcases hm with e | e | e
              · exact .inl e
              · exact .inr (.inl e)
              · exact .inr (.inr (by omega))).new hn8
            have hS := hS.new hn8
            refine ⟨hS, ?_⟩
            revert hz3 hv hS
            generalize w8 = cw
            intro hz3 hv hS
            have hv8 : ViewAt (fun k => k = b1 ∨ k = b2 ∨ k = b3) cw rs vs := hv
            exact A0 hp h1n h5n (hn03.new hS) (New.blk hS hz1) (New.blk hS hz2) ⟨hb12.1, hb12.2.1, hb3b⟩ hz3 hv8 _
          · rintro b3 w8 hb3 hw8
            obtain ⟨hz3, hn8⟩ := box_new hb3 hw8
            clear hw8
            have hz3 : Blk w8 b3 zrj TRJ := hz3
            have hs8 := hS.size
            have hb3b : b2 < b3 := by omega
            have hv : ViewAt (fun k => k = b1 ∨ k = b2 ∨ k = b3) w8 rs vs := (hv0.mono fun k hlt hm => by
              rcases hm with e | e | e
              · exact .inl e
              · exact .inr (.inl e)
              · exact .inr (.inr (by omega))).new hn8
            have hS := hS.new hn8
            refine ⟨hS, ?_⟩
            clear hn8 hb3 hs8
            revert hz3 hv hS
            generalize w8 = cw
            intro hz3 hv hS
            refine at_call (Pick_c cw p.Dead 6 hp.e (by omega)) ?_
            rintro x cw ⟨rfl, rfl⟩
            refine ⟨_, rfl, hS, ?_⟩
            have hv8 : ViewAt (fun k => k = b1 ∨ k = b2 ∨ k = b3) cw rs vs := hv
            exact A0 hp h1n h5n (hn03.new hS) (New.blk hS hz1) (New.blk hS hz2) ⟨hb12.1, hb12.2.1, hb3b⟩ hz3 hv8 _
        · rintro b3 w8 hb3 hw8
          obtain ⟨hz3, hn8⟩ := box_new hb3 hw8
          clear hw8
          have hz3 : Blk w8 b3 zrj TRJ := hz3
          have hs8 := hS.size
          have hb3b : b2 < b3 := by omega
          have hS := hS.new hn8
          refine ⟨hS, ?_⟩
          clear hn8 hb3 hs8
          revert hz3 hS
          generalize w8 = cw
          intro hz3 hS
          refine at_call (Start_c cw (n := n) h1n h5n) ?_
          have hs0 := hS.size
          rintro x cw' ⟨rs, vs, rfl, hvs, hn7, hgs, _⟩
          have hs7 := hn7.size
          have hl3 := hz3.lt
          have hz3 := New.blk hn7 hz3
          have hv : ViewAt (fun k => k = b1 ∨ k = b2 ∨ k = b3) cw' rs vs := hvs.mono fun k hlt hm => by
            show k < _
            rcases hm with e | e | e <;> omega
          have hS := hS.new hn7
          refine ApiViewR.mk_ex rs ⟨rfl, hS, ?_⟩
          clear hvs hn7 hs7
          revert hz3 hv hS
          generalize cw' = cw
          intro hz3 hv hS
          refine at_call (Pick_c cw p.Dead 6 hp.e (by omega)) ?_
          rintro x cw ⟨rfl, rfl⟩
          refine ⟨_, rfl, hS, ?_⟩
          have hv8 : ViewAt (fun k => k = b1 ∨ k = b2 ∨ k = b3) cw rs vs := hv
          exact A0 hp h1n h5n (hn03.new hS) (New.blk hS hz1) (New.blk hS hz2) ⟨hb12.1, hb12.2.1, hb3b⟩ hz3 hv8 _
      · rintro b3 w8 hb3 hw8
        obtain ⟨hz3, hn8⟩ := box_new hb3 hw8
        clear hw8
        have hz3 : Blk w8 b3 zrj TRJ := hz3
        have hs8 := hS.size
        have hb3b : b2 < b3 := by omega
        have hS := hS.new hn8
        refine ⟨hS, ?_⟩
        clear hn8 hb3 hs8
        revert hz3 hS
        generalize w8 = cw
        intro hz3 hS
        refine at_call (Lines_c cw hp.c) ?_
        rintro x cw ⟨li, rfl, hn98, hn104, rfl⟩
        refine ⟨_, rfl, hS, ?_⟩
        refine at_call (Start_c cw (n := n) h1n h5n) ?_
        have hs0 := hS.size
        rintro x cw' ⟨rs, vs, rfl, hvs, hn7, hgs, _⟩
        have hs7 := hn7.size
        have hl3 := hz3.lt
        have hz3 := New.blk hn7 hz3
        have hv : ViewAt (fun k => k = b1 ∨ k = b2 ∨ k = b3) cw' rs vs := hvs.mono fun k hlt hm => by
          show k < _
          rcases hm with e | e | e <;> omega
        have hS := hS.new hn7
        refine ApiViewR.mk_ex rs ⟨rfl, hS, ?_⟩
        clear hvs hn7 hs7
        revert hz3 hv hS
        generalize cw' = cw
        intro hz3 hv hS
        refine at_call (Pick_c cw p.Dead 6 hp.e (by omega)) ?_
        rintro x cw ⟨rfl, rfl⟩
        refine ⟨_, rfl, hS, ?_⟩
        have hv8 : ViewAt (fun k => k = b1 ∨ k = b2 ∨ k = b3) cw rs vs := hv
        exact A0 hp h1n h5n (hn03.new hS) (New.blk hS hz1) (New.blk hS hz2) ⟨hb12.1, hb12.2.1, hb3b⟩ hz3 hv8 _
    · rintro b3 w8 hb3 hw8
      obtain ⟨hz3, hn8⟩ := box_new hb3 hw8
      clear hw8
      have hz3 : Blk w8 b3 zrj TRJ := hz3
      have hs8 := hS.size
      have hb3b : b2 < b3 := by omega
      have hS := hS.new hn8
      refine ⟨hS, ?_⟩
      clear hn8 hb3 hs8
      revert hz3 hS
      generalize w8 = cw
      intro hz3 hS
      refine at_call (Pick_c cw p.Inc 4 hp.b (by omega)) ?_
      rintro x cw ⟨rfl, rfl⟩
      refine ⟨_, rfl, hS, ?_⟩
      refine at_call (Lines_c cw hp.c) ?_
      rintro x cw ⟨li, rfl, hn98, hn104, rfl⟩
      refine ⟨_, rfl, hS, ?_⟩
      refine at_call (Start_c cw (n := n) h1n h5n) ?_
      have hs0 := hS.size
      rintro x cw' ⟨rs, vs, rfl, hvs, hn7, hgs, _⟩
      have hs7 := hn7.size
      have hl3 := hz3.lt
      have hz3 := New.blk hn7 hz3
      have hv : ViewAt (fun k => k = b1 ∨ k = b2 ∨ k = b3) cw' rs vs := hvs.mono fun k hlt hm => by
        show k < _
        rcases hm with e | e | e <;> omega
      have hS := hS.new hn7
      refine ApiViewR.mk_ex rs ⟨rfl, hS, ?_⟩
      clear hvs hn7 hs7
      revert hz3 hv hS
      generalize cw' = cw
      intro hz3 hv hS
      refine at_call (Pick_c cw p.Dead 6 hp.e (by omega)) ?_
      rintro x cw ⟨rfl, rfl⟩
      refine ⟨_, rfl, hS, ?_⟩
      have hv8 : ViewAt (fun k => k = b1 ∨ k = b2 ∨ k = b3) cw rs vs := hv
      exact A0 hp h1n h5n (hn03.new hS) (New.blk hS hz1) (New.blk hS hz2) ⟨hb12.1, hb12.2.1, hb3b⟩ hz3 hv8 _
  · rintro b3 w8 hb3 hw8
    obtain ⟨hz3, hn8⟩ := box_new hb3 hw8
    clear hw8
    have hz3 : Blk w8 b3 zrj TRJ := hz3
    have hs8 := hS.size
    have hb3b : b2 < b3 := by omega
    have hS := hS.new hn8
    refine ⟨hS, ?_⟩
    clear hn8 hb3 hs8
    revert hz3 hS
    generalize w8 = cw
    intro hz3 hS
    refine at_call (Pick_c cw p.Client 6 hp.a (by omega)) ?_
    rintro x cw ⟨rfl, rfl⟩
    refine ⟨_, rfl, hS, ?_⟩
    refine at_call (Pick_c cw p.Inc 4 hp.b (by omega)) ?_
    rintro x cw ⟨rfl, rfl⟩
    refine ⟨_, rfl, hS, ?_⟩
    refine at_call (Lines_c cw hp.c) ?_
    rintro x cw ⟨li, rfl, hn98, hn104, rfl⟩
    refine ⟨_, rfl, hS, ?_⟩
    refine at_call (Start_c cw (n := n) h1n h5n) ?_
    have hs0 := hS.size
    rintro x cw' ⟨rs, vs, rfl, hvs, hn7, hgs, _⟩
    have hs7 := hn7.size
    have hl3 := hz3.lt
    have hz3 := New.blk hn7 hz3
    have hv : ViewAt (fun k => k = b1 ∨ k = b2 ∨ k = b3) cw' rs vs := hvs.mono fun k hlt hm => by
      show k < _
      rcases hm with e | e | e <;> omega
    have hS := hS.new hn7
    refine ApiViewR.mk_ex rs ⟨rfl, hS, ?_⟩
    clear hvs hn7 hs7
    revert hz3 hv hS
    generalize cw' = cw
    intro hz3 hv hS
    refine at_call (Pick_c cw p.Dead 6 hp.e (by omega)) ?_
    rintro x cw ⟨rfl, rfl⟩
    refine ⟨_, rfl, hS, ?_⟩
    have hv8 : ViewAt (fun k => k = b1 ∨ k = b2 ∨ k = b3) cw rs vs := hv
    exact A0 hp h1n h5n (hn03.new hS) (New.blk hS hz1) (New.blk hS hz2) ⟨hb12.1, hb12.2.1, hb3b⟩ hz3 hv8 _

end Go.Proofs.YtppcleiekdbndaaGreat
