/- Which jobs of package reconfig are valid. -/
import Derived.Test.YtaddcfkicmeebaaGreatPick
import Derived.Test.YtaddcfkicmeebaaGreatCodeRC
set_option linter.unusedVariables false
namespace Go.Proofs.YtaddcfkicmeebaaGreat
open Go.Eng

theorem pick_in {x n : Int} (hn : 1 ≤ n) : 0 ≤ (if n < 1 then 0 else x % n) ∧ (if n < 1 then 0 else x % n) < n := by
  rw [if_neg (by omega)]
  exact ⟨Int.emod_nonneg x (by omega), Int.emod_lt_of_pos x (by omega)⟩

theorem Lines_c (w : World) {x : Int} (hx : I64 x) : Does 10 [.int .i64 x] w fun v w' => ∃ n : Int, v = .int .i64 n ∧ 98 ≤ n ∧ n ≤ 104 ∧ w' = w := by
  refine does Tryz.func10 ?_
  rw [bodegahand_Lines_vc]
  refine at_call (Pick_c w x 7 hx (by omega)) ?_
  rintro v w1 ⟨rfl, rfl⟩
  have := pick_in (x := x) (n := 7) (by omega)
  refine ⟨_, rfl, _, rfl, ?_, ?_, rfl⟩ <;> rw [w64 (by omega) (by omega)] <;> omega

theorem WWithin_c (w : World) (x a b : Int) : Does 24 [.int .i64 x, .int .i64 a, .int .i64 b] w fun v w' => v = .bool (decide (a ≤ x ∧ x ≤ b)) ∧ w' = w := by
  refine does Tryz.func24 ?_
  rw [word_within_int_vc]
  refine bif_dec (fun h => ⟨?_, rfl⟩) (fun h => ⟨?_, rfl⟩)
  · have : a ≤ x := h
    simp [this]
  · have : ¬ a ≤ x := h
    simp [this]

theorem WClient_c (w : World) (c : Int) : Does 25 [.int .i64 c] w fun v w' => v = .bool (decide (0 ≤ c ∧ c < 6)) ∧ w' = w := by
  refine does Tryz.func25 ?_
  rw [word_isClient_vc]
  refine at_call (WWithin_c w c 0 5) ?_
  rintro v w1 ⟨rfl, rfl⟩
  refine ⟨_, rfl, ?_, rfl⟩
  congr 1
  rw [decide_eq_decide]
  omega

theorem RClient_c (w : World) (c : Int) : Does 26 [.int .i64 c] w fun v w' => v = .bool (decide (0 ≤ c ∧ c < 6)) ∧ w' = w := by
  refine does Tryz.func26 ?_
  rw [bodegaref1_Client_vc]
  refine bif_dec (fun h => ⟨?_, rfl⟩) (fun h => ⟨?_, rfl⟩)
  · have : 0 ≤ c := h
    simp [this]
  · have : ¬ 0 ≤ c := h
    simp [this]

/-- What a ballot of a round and a compute node comes to. -/
def ballE (r c : Int) : Int := if r < 1 ∨ 500 < r then 2 else if c < 0 ∨ 6 ≤ c then 1 else 0

theorem WBallot_c (w : World) (r c : Int) : Does 17 [.int .i64 r, .int .i64 c] w fun v w' => (∃ x, v = .tuple #[.int .u64 x, .int .i64 (ballE r c)]) ∧ w' = w := by
  refine does Tryz.func17 ?_
  rw [word_Ballot_vc]
  refine at_call (WWithin_c w r 1 500) ?_
  rintro v w1 ⟨rfl, rfl⟩
  refine ⟨_, rfl, bif_not (fun h => ?_) (fun h => ?_)⟩
  · have h := of_decide_eq_false h
    exact ⟨⟨0, by rw [ballE, if_pos (by omega)]⟩, rfl⟩
  · have h := of_decide_eq_true h
    refine at_call (WClient_c w1 c) ?_
    rintro v w2 ⟨rfl, rfl⟩
    refine ⟨_, rfl, bif_not (fun h2 => ?_) (fun h2 => ?_)⟩
    · have h2 := of_decide_eq_false h2
      exact ⟨⟨0, by rw [ballE, if_neg (by omega), if_pos (by omega)]⟩, rfl⟩
    · have h2 := of_decide_eq_true h2
      exact ⟨⟨_, by rw [ballE, if_neg (by omega), if_neg (by omega)]⟩, rfl⟩

theorem RBallot_c (w : World) (r c : Int) : Does 18 [.int .i64 r, .int .i64 c] w fun v w' => (∃ x, v = .tuple #[.int .u64 x, .int .i64 (ballE r c)]) ∧ w' = w := by
  refine does Tryz.func18 ?_
  rw [bodegaref1_Ballot_vc]
  refine bif_dec (fun h => ⟨⟨0, by rw [ballE, if_pos (by omega)]⟩, rfl⟩) (fun h => bif_dec (fun h2 => ⟨⟨0, by rw [ballE, if_pos (by omega)]⟩, rfl⟩) (fun h2 => ?_))
  refine at_call (RClient_c w c) ?_
  rintro v w2 ⟨rfl, rfl⟩
  refine ⟨_, rfl, bif_not (fun h3 => ?_) (fun h3 => ?_)⟩
  · have h3 := of_decide_eq_false h3
    exact ⟨⟨0, by rw [ballE, if_neg (by omega), if_pos (by omega)]⟩, rfl⟩
  · have h3 := of_decide_eq_true h3
    exact ⟨⟨_, by rw [ballE, if_neg (by omega), if_neg (by omega)]⟩, rfl⟩

def rcValid (n c r l : Int) : Int := if n < 1 ∨ 5 < n then 1 else if ballE r c ≠ 0 then ballE r c else if l < 98 ∨ 256 < l then 18 else 0

abbrev TRC : TypeId := 23

theorem RCValid_c (w : World) (j : ReconfigJobR) : Does 7 [j.val] w fun v w' => v = .int .i64 (rcValid j.Nodes j.Client j.Round j.Lines) ∧ New w w' := by
  refine does Tryz.func7 ?_
  rw [reconfig_Valid_vc]
  rintro b1 w1 hb1 hw1
  obtain ⟨hz, hn⟩ := box_new hb1 hw1
  have hz : Blk w1 b1 j.cells TRC := hz
  clear hw1
  unfold rcValid
  refine ⟨_, hz.cell (i := 0) rfl, bif_dec (fun h => ⟨by rw [if_pos (by omega)], hn⟩) (fun h1 => ?_)⟩
  refine ⟨_, hz.cell (i := 0) rfl, bif_dec (fun h => ⟨by rw [if_pos (by omega)], hn⟩) (fun h2 => ?_)⟩
  rw [if_neg (by omega)]
  refine ⟨_, hz.cell (i := 2) rfl, _, hz.cell (i := 1) rfl, ?_⟩
  refine at_call (WBallot_c w1 j.Round j.Client) ?_
  rintro v w2 ⟨⟨x, rfl⟩, rfl⟩
  refine ⟨_, _, rfl, bif_bne (fun h => ⟨by rw [if_pos h], hn⟩) (fun h => ?_)⟩
  rw [if_neg (by omega)]
  refine ⟨_, hz.cell (i := 3) rfl, bif_dec (fun h => ⟨by rw [if_pos (by omega)], hn⟩) (fun h3 => ?_)⟩
  refine ⟨_, hz.cell (i := 3) rfl, bif_dec (fun h => ⟨by rw [if_pos (by omega)], hn⟩) (fun h4 => ⟨by rw [if_neg (by omega)], hn⟩)⟩

def refRC (j : ReconfigJobR) : Bodegaref9ReconfigJobR := ⟨j.Nodes, j.Client, j.Round, j.Lines⟩

theorem RCRef_c (w : World) (j : ReconfigJobR) : Does 8 [(refRC j).val] w fun v w' => v = .int .i64 (rcValid j.Nodes j.Client j.Round j.Lines) ∧ New w w' := by
  refine does Tryz.func8 ?_
  rw [bodegaref9_ValidReconfig_vc]
  rintro b1 w1 hb1 hw1
  obtain ⟨hz, hn⟩ := box_new hb1 hw1
  have hz : Blk w1 b1 (refRC j).cells 30 := hz
  clear hw1
  unfold rcValid
  refine ⟨j.Nodes, hz.cell (i := 0) rfl, bif_dec (fun h => ⟨by rw [if_pos (by omega)], hn⟩) (fun h1 => ?_)⟩
  refine ⟨j.Nodes, hz.cell (i := 0) rfl, bif_dec (fun h => ⟨by rw [if_pos (by omega)], hn⟩) (fun h2 => ?_)⟩
  rw [if_neg (by omega)]
  refine ⟨j.Round, hz.cell (i := 2) rfl, j.Client, hz.cell (i := 1) rfl, ?_⟩
  refine at_call (RBallot_c w1 j.Round j.Client) ?_
  rintro v w2 ⟨⟨x, rfl⟩, rfl⟩
  refine ⟨_, _, rfl, bif_bne (fun h => ⟨by rw [if_pos h], hn⟩) (fun h => ?_)⟩
  rw [if_neg (by omega)]
  refine ⟨j.Lines, hz.cell (i := 3) rfl, bif_dec (fun h => ⟨by rw [if_pos (by omega)], hn⟩) (fun h3 => ?_)⟩
  refine ⟨j.Lines, hz.cell (i := 3) rfl, bif_dec (fun h => ⟨by rw [if_pos (by omega)], hn⟩) (fun h4 => ⟨by rw [if_neg (by omega)], hn⟩)⟩

theorem RCOwn_c (w : World) (r : ReconfigJobR) : Does 9 [r.val] w fun x w' => x = (refRC r).val ∧ New w w' := by
  refine does Tryz.func9 ?_
  rw [bodegalaw14_own_vc]
  rintro b1 w1 hb1 hw1
  obtain ⟨hz1, hn1⟩ := box_new hb1 hw1
  have hz1 : Blk w1 b1 r.cells TRC := hz1
  clear hw1
  rintro b2 w2 hb2 hw2
  obtain ⟨hz2, hn2⟩ := box_new hb2 hw2
  have hz2 : Blk w2 b2 (Bodegaref9ReconfigJobR.cells ⟨0, 0, 0, 0⟩) 30 := hz2
  clear hw2
  have hz12 := New.blk hn2 hz1
  have hs := hn1.size
  refine ⟨_, hz12.cell (i := 0) rfl, _, hz12.cell (i := 1) rfl, _, hz12.cell (i := 2) rfl, _, hz12.cell (i := 3) rfl, ?_⟩
  refine put_k (vs := (refRC r).cells) hz2 rfl (Bodegaref9ReconfigJobR.single _) fun w3 hz3 hk3 => ?_
  refine Bodegaref9ReconfigJobR.mk_ex (refRC r) ⟨cellsAt_blk hz3 rfl, rfl, rfl, ?_⟩
  exact (hn1.new hn2).trans hk3 fun k hlt e => by omega

/-! ### near -/

theorem qr_q {P : Program} {fn : Func} {R : Value → World → Prop} {Q : Exit → List Value → World → Prop} {c : Code} {env : List Value} {w : World} (h' : ∀ env w, Q .ret env w = retQ P fn R .ret env w) (h : W P c env (Qr P fn R Q) w) : W P c env Q w := (W_qr h').mp h

theorem out_k {ρ : Type} {cells : ρ → List Value} {ex : (ρ → Prop) → Prop} (mk : ∀ (K : ρ → Prop) r, K r → ex K) (hs : ∀ r, ∀ u ∈ cells r, single u = true) {u : World} {b1 b2 : Nat} {r : ρ} {zs : List Value} {T : TypeId} (h1 : Blk u b1 zs T) (hl : zs.length = (cells r).length) (h2 : Blk u b2 (cells r) T) {K : ρ → World → Prop} (hk : ∀ w', Keep (fun k => k = b1) u w' → K r w') :
    ex fun r => cellsAt u ⟨b2, 0, none⟩ 0 (cells r) ∧ wrAt u ⟨b1, 0, none⟩ 0 (cells r) ∧ ∀ w4, w4 = puts u ⟨b1, 0, none⟩ 0 (cells r) → ex fun res => cellsAt w4 ⟨b1, 0, none⟩ 0 (cells res) ∧ w4 = w4 ∧ K res w4 := by
  refine mk _ r ⟨cellsAt_blk h2 (by simp), wrAt_blk h1 (by rw [hl]; omega) (hs r), fun w4 hw => ?_⟩
  have hk4 : Keep (fun k => k = b1) u w4 := by rw [hw]; exact keep_puts _ _ _ _ _
  have hz : Blk w4 b1 (cells r) T := by
    rw [hw]
    have := h1.puts (o := 0) (i := 0) (vs := cells r)
    rw [Nat.add_zero, splice_all hl.symm] at this
    exact this
  exact mk _ r ⟨cellsAt_blk hz (by simp), rfl, hk w4 hk4⟩

structure RCIn (j : ReconfigJobR) : Prop where
  n : I64 j.Nodes
  c : I64 j.Client
  r : I64 j.Round
  l : I64 j.Lines

/-- Between the tests of near: the job in its box, the result's box. -/
structure Nr (w u : World) (b1 b2 : Nat) (j : ReconfigJobR) : Prop where
  box : Blk u b1 j.cells TRC
  out : ∃ z : ReconfigJobR, Blk u b2 z.cells TRC
  ok : RCIn j
  new : New w u
  lo : w.heap.size ≤ b1 ∧ w.heap.size ≤ b2 ∧ b1 ≠ b2

abbrev NrPost (w : World) : Value → World → Prop := fun x w' => ∃ r : ReconfigJobR, x = r.val ∧ New w w'

theorem Nr.set {w u u' : World} {b1 b2 i : Nat} {j j' : ReconfigJobR} {v : Value} (h : Nr w u b1 b2 j) (hb : Blk u' b1 (j.cells.set i v) TRC) (hk : Keep (fun k => k = b1) u u') (hc : j.cells.set i v = j'.cells) (ho : RCIn j') : Nr w u' b1 b2 j' := by
  obtain ⟨z, hz⟩ := h.out
  refine ⟨hc ▸ hb, ⟨z, hk.blk hz fun e => h.lo.2.2 e.symm⟩, ho, h.new.trans hk fun k hlt e => ?_, h.lo⟩
  have := h.lo.1
  omega

theorem i64_small {x : Int} (h0 : -1 ≤ x) (h1 : x ≤ 1000) : I64 x := ⟨by omega, by omega⟩

section
variable {w u : World} {b1 b2 : Nat} {j : ReconfigJobR}

theorem near_end {K : ReconfigJobR → World → Prop} (h : Nr w u b1 b2 j) (hk : ∀ w', New w w' → K j w') :
    ReconfigJobR.ex fun r => cellsAt u ⟨b1, 0, none⟩ 0 r.cells ∧ wrAt u ⟨b2, 0, none⟩ 0 r.cells ∧ ∀ w4, w4 = puts u ⟨b2, 0, none⟩ 0 r.cells → ReconfigJobR.ex fun res => cellsAt w4 ⟨b2, 0, none⟩ 0 res.cells ∧ w4 = w4 ∧ K res w4 := by
  obtain ⟨z, hz⟩ := h.out
  refine out_k (r := j) (cells := ReconfigJobR.cells) (fun K r h => ReconfigJobR.mk_ex r h) (fun r => ReconfigJobR.single r) hz rfl h.box fun w' hk' => hk w' (h.new.trans hk' fun k hlt e => ?_)
  have := h.lo.2.1
  omega

set_option maxHeartbeats 1000000 in
theorem near3 (h : Nr w u b1 b2 j) (jj : List Value) : W Tryz.prog (sub (bodyOf Tryz.f4) [1, 1, 1, 1]) (bodegalaw14_near_aft3 ⟨b1, 0, none⟩ ⟨b2, 0, none⟩ jj) (retQ Tryz.prog Tryz.f4 (NrPost w)) u := by
  refine qr_q (P := Tryz.prog) (fn := Tryz.f4) (R := NrPost w) (fun _ _ => rfl) ?_
  rw [bodegalaw14_near_aft3_vc]
  refine ⟨_, h.box.cell (i := 3) rfl, ?_⟩
  refine at_call (Pick_c u j.Lines 9 h.ok.l (by omega)) ?_
  rintro v u ⟨rfl, rfl⟩
  refine ⟨_, rfl, bif_dec (fun _ => ?_) (fun _ => ?_)⟩
  · refine ⟨_, h.box.cell (i := 3) rfl, ?_⟩
    refine at_call (Lines_c u h.ok.l) ?_
    rintro v u ⟨n, rfl, h98, h104, rfl⟩
    refine ⟨_, rfl, ?_⟩
    refine setv_k (b := b1) (o := 3) h.box (by show 3 < 4; omega) fun u' hb' hk' => ?_
    exact near_end (h.set (j' := ⟨j.Nodes, j.Client, j.Round, n⟩) hb' hk' rfl ⟨h.ok.n, h.ok.c, h.ok.r, i64_small (x := n) (by omega) (by omega)⟩) fun w' hn => ⟨_, rfl, hn⟩
  · exact near_end h fun w' hn => ⟨_, rfl, hn⟩

set_option maxHeartbeats 1000000 in
theorem near2 (h : Nr w u b1 b2 j) (jj : List Value) : W Tryz.prog (sub (bodyOf Tryz.f4) [1, 1, 1]) (bodegalaw14_near_aft2 ⟨b1, 0, none⟩ ⟨b2, 0, none⟩ jj) (retQ Tryz.prog Tryz.f4 (NrPost w)) u := by
  rw [bodegalaw14_near_aft2_split]
  refine qr_q (P := Tryz.prog) (fn := Tryz.f4) (R := NrPost w) (fun _ _ => rfl) ?_
  rw [bodegalaw14_near_aft2_vc]
  refine ⟨_, h.box.cell (i := 2) rfl, ?_⟩
  refine at_call (Pick_c u j.Round 9 h.ok.r (by omega)) ?_
  rintro v u ⟨rfl, rfl⟩
  refine ⟨_, rfl, bif_dec (fun _ => ?_) (fun _ => ?_)⟩
  · refine ⟨_, h.box.cell (i := 2) rfl, ?_⟩
    refine at_call (Pick_c u j.Round 9 h.ok.r (by omega)) ?_
    rintro v u ⟨rfl, rfl⟩
    have hp := pick_in (x := j.Round) (n := 9) (by omega)
    refine ⟨_, rfl, ?_⟩
    generalize (if (9 : Int) < 1 then 0 else j.Round % 9) = q at hp ⊢
    refine setv_k (b := b1) (o := 2) h.box (by show 2 < 4; omega) fun u' hb' hk' => ?_
    refine seqQ_n ?_
    exact near3 (h.set (j' := ⟨j.Nodes, j.Client, q, j.Lines⟩) hb' hk' rfl ⟨h.ok.n, h.ok.c, i64_small (x := q) (by omega) (by omega), h.ok.l⟩) _
  · refine seqQ_n ?_
    exact near3 h _

set_option maxHeartbeats 1000000 in
theorem near1 (h : Nr w u b1 b2 j) (jj : List Value) : W Tryz.prog (sub (bodyOf Tryz.f4) [1, 1]) (bodegalaw14_near_aft1 ⟨b1, 0, none⟩ ⟨b2, 0, none⟩ jj) (retQ Tryz.prog Tryz.f4 (NrPost w)) u := by
  rw [bodegalaw14_near_aft1_split]
  refine qr_q (P := Tryz.prog) (fn := Tryz.f4) (R := NrPost w) (fun _ _ => rfl) ?_
  rw [bodegalaw14_near_aft1_vc]
  refine ⟨_, h.box.cell (i := 1) rfl, ?_⟩
  refine at_call (Pick_c u j.Client 9 h.ok.c (by omega)) ?_
  rintro v u ⟨rfl, rfl⟩
  refine ⟨_, rfl, bif_dec (fun _ => ?_) (fun _ => ?_)⟩
  · refine ⟨_, h.box.cell (i := 1) rfl, ?_⟩
    refine at_call (Pick_c u j.Client 9 h.ok.c (by omega)) ?_
    rintro v u ⟨rfl, rfl⟩
    have hp := pick_in (x := j.Client) (n := 9) (by omega)
    refine ⟨_, rfl, ?_⟩
    generalize (if (9 : Int) < 1 then 0 else j.Client % 9) = q at hp ⊢
    rw [w64 (x := q - 1) (by omega) (by omega)]
    refine setv_k (b := b1) (o := 1) h.box (by show 1 < 4; omega) fun u' hb' hk' => ?_
    refine seqQ_n ?_
    exact near2 (h.set (j' := ⟨j.Nodes, q - 1, j.Round, j.Lines⟩) hb' hk' rfl ⟨h.ok.n, i64_small (x := q - 1) (by omega) (by omega), h.ok.r, h.ok.l⟩) _
  · refine seqQ_n ?_
    exact near2 h _
end

theorem Near_c (w : World) {j : ReconfigJobR} (hj : RCIn j) {n : Int} (hn : I64 n) : Does 4 [j.val, .int .i64 n] w (NrPost w) := by
  refine does Tryz.func4 ?_
  rw [bodegalaw14_near_vc]
  rintro b1 w1 hb1 hw1
  obtain ⟨hz1, hn1⟩ := box_new hb1 hw1
  have hz1 : Blk w1 b1 j.cells TRC := hz1
  clear hw1
  rintro b2 w2 hb2 hw2
  obtain ⟨hz2, hn2⟩ := box_new hb2 hw2
  have hz2 : Blk w2 b2 (ReconfigJobR.cells ⟨0, 0, 0, 0⟩) TRC := hz2
  clear hw2
  have hl1 := hz1.lt
  have h : Nr w w2 b1 b2 j := ⟨New.blk hn2 hz1, ⟨_, hz2⟩, hj, hn1.new hn2, by omega, by have := hn1.size; omega, by omega⟩
  refine setv_k (b := b1) (o := 0) h.box (by show 0 < 4; omega) fun u' hb' hk' => ?_
  exact near1 (h.set (j' := ⟨n, j.Client, j.Round, j.Lines⟩) hb' hk' rfl ⟨hn, hj.c, hj.r, hj.l⟩) _
end Go.Proofs.YtaddcfkicmeebaaGreat
