/- Tags of recoverers; valid jobs of package recovery. -/
import Derived.Test.YtppcleiekdbndaaGreatCV2
import Derived.Test.YtppcleiekdbndaaGreatCodeRV
import Derived.Test.YtppcleiekdbndaaGreatCodeDS
set_option linter.unusedVariables false
namespace Go.Proofs.YtppcleiekdbndaaGreat
open Go.Eng

def isIncM (i : Int) : Bool := decide (1 ≤ i ∧ i ≤ 59) && (Int.tmod i 2 == 1)
def tagE (i c : Int) : Int := if isIncM i = false then 2 else if ¬ (0 ≤ c ∧ c < 6) then 1 else 0
def tagV (i c : Int) : Int := if tagE i c = 0 then i * 256 + (c + 1) else 0
def splitI (t : Int) : Int := if tagE (t / 256) (t % 256 - 1) = 0 then t / 256 else 0
def splitC (t : Int) : Int := if tagE (t / 256) (t % 256 - 1) = 0 then t % 256 - 1 else 0
def splitB (t : Int) : Bool := decide (tagE (t / 256) (t % 256 - 1) = 0)

theorem tagE_zero {i c : Int} (h : tagE i c = 0) : (1 ≤ i ∧ i ≤ 59) ∧ 0 ≤ c ∧ c < 6 := by
  unfold tagE at h
  split at h
  · cases h
  · rename_i h1
    split at h
    · cases h
    · rename_i h2
      have h2 : 0 ≤ c ∧ c < 6 := by simpa using h2
      have h1 : isIncM i = true := by simpa using h1
      unfold isIncM at h1
      have h3 := of_decide_eq_true (Bool.and_eq_true_iff.1 h1).1
      exact ⟨h3, h2⟩

theorem tagE_big {i c : Int} (h : 59 < i) : tagE i c = 2 := by
  unfold tagE
  rw [if_pos]
  unfold isIncM
  rw [decide_eq_false (by omega)]
  rfl

theorem tag_or {i c : Int} (h : tagE i c = 0) : bor .u64 (bshl .u64 (IntKind.u64.wrap i) 8) (IntKind.u64.wrap (IntKind.i64.wrap (c + 1))) = i * 256 + (c + 1) := by
  obtain ⟨⟨h1, h2⟩, h3, h4⟩ := tagE_zero h
  rw [w64 (x := c + 1) (by omega) (by omega), wrapu (x := c + 1) (by omega) (by omega), wrapu (x := i) (by omega) (by omega)]
  have e1 : bshl .u64 i 8 = i * 256 := by
    show IntKind.u64.wrap (i * 2 ^ 8) = _
    have : (2 : Int) ^ 8 = 256 := rfl
    rw [this]
    exact wrapu (by omega) (by omega)
  rw [e1]
  obtain ⟨n, rfl⟩ := Int.eq_ofNat_of_zero_le (show 0 ≤ i by omega)
  obtain ⟨m, hm⟩ := Int.eq_ofNat_of_zero_le (show 0 ≤ c + 1 by omega)
  rw [hm]
  have e2 : (n : Int) * 256 = ((n * 256 : Nat) : Int) := (Int.natCast_mul n 256).symm
  rw [e2, bor_nat _ _ (by omega) (by omega)]
  have e3 := or_add n m 8 (by omega)
  have e4 : (2 : Nat) ^ 8 = 256 := rfl
  rw [e4] at e3
  rw [e3]
  exact Int.natCast_add _ _

theorem WWithin_c (w : World) (x a b : Int) : Does 144 [.int .i64 x, .int .i64 a, .int .i64 b] w fun v w' => v = .bool (decide (a ≤ x ∧ x ≤ b)) ∧ w' = w := by
  refine does Tryz.func144 ?_
  rw [word_within_int_vc]
  refine bif_dec (fun h => ⟨?_, rfl⟩) (fun h => ⟨?_, rfl⟩)
  · have : a ≤ x := h
    simp [this]
  · have : ¬ a ≤ x := h
    simp [this]

theorem WInc_c (w : World) (i : Int) : Does 116 [.int .i64 i] w fun v w' => v = .bool (isIncM i) ∧ w' = w := by
  refine does Tryz.func116 ?_
  rw [word_isInc_vc]
  refine at_call (WWithin_c w i 1 59) ?_
  rintro v w1 ⟨rfl, rfl⟩
  unfold isIncM
  refine ⟨_, rfl, bif_b (fun h => ⟨by rw [h]; simp, rfl⟩) (fun h => ⟨by rw [h]; simp, rfl⟩)⟩

theorem RInc_c (w : World) (i : Int) : Does 107 [.int .i64 i] w fun v w' => v = .bool (isIncM i) ∧ w' = w := by
  refine does Tryz.func107 ?_
  rw [bodegaref1_Inc_vc]
  unfold isIncM
  refine bif_dec (fun h => bif_dec (fun h2 => ⟨?_, rfl⟩) (fun h2 => ⟨?_, rfl⟩)) (fun h => ⟨?_, rfl⟩)
  · rw [decide_eq_true (show 1 ≤ i ∧ i ≤ 59 from ⟨h, h2⟩)]; simp
  · rw [decide_eq_false (fun e => h2 e.2)]; simp
  · rw [decide_eq_false (fun e => h e.1)]; simp

theorem WClient_c (w : World) (c : Int) : Does 117 [.int .i64 c] w fun v w' => v = .bool (decide (0 ≤ c ∧ c < 6)) ∧ w' = w := by
  refine does Tryz.func117 ?_
  rw [word_isClient_vc]
  refine at_call (WWithin_c w c 0 5) ?_
  rintro v w1 ⟨rfl, rfl⟩
  refine ⟨_, rfl, ?_, rfl⟩
  congr 1
  rw [decide_eq_decide]
  omega

abbrev TagPost (w : World) (i c : Int) : Value → World → Prop := fun x w' => x = .tuple #[.int .u64 (tagV i c), .int .i64 (tagE i c)] ∧ w' = w

theorem tag_bad1 {i c : Int} (h : isIncM i = false) : tagV i c = 0 ∧ tagE i c = 2 := by
  have e : tagE i c = 2 := if_pos h
  refine ⟨?_, e⟩
  unfold tagV
  rw [if_neg (by rw [e]; omega)]
theorem tag_bad2 {i c : Int} (h : isIncM i = true) (hc : ¬ (0 ≤ c ∧ c < 6)) : tagV i c = 0 ∧ tagE i c = 1 := by
  have e : tagE i c = 1 := by unfold tagE; rw [if_neg (by rw [h]; simp), if_pos hc]
  refine ⟨?_, e⟩
  unfold tagV
  rw [if_neg (by rw [e]; omega)]
theorem tag_ok {i c : Int} (h : isIncM i = true) (hc : 0 ≤ c ∧ c < 6) : tagE i c = 0 := by unfold tagE; rw [if_neg (by rw [h]; simp), if_neg (fun e => e hc)]
theorem tagV_ok {i c : Int} (h : tagE i c = 0) : tagV i c = i * 256 + (c + 1) := if_pos h

theorem WTag_c (w : World) (i c : Int) : Does 66 [.int .i64 i, .int .i64 c] w (TagPost w i c) := by
  refine does Tryz.func66 ?_
  rw [word_Tag_vc]
  refine at_call (WInc_c w i) ?_
  rintro v w1 ⟨rfl, rfl⟩
  refine ⟨_, rfl, bif_not (fun hf => ?_) (fun ht => ?_)⟩
  · obtain ⟨e1, e2⟩ := tag_bad1 (c := c) hf
    exact ⟨by rw [e1, e2], rfl⟩
  refine at_call (WClient_c w1 c) ?_
  rintro v w2 ⟨rfl, rfl⟩
  refine ⟨_, rfl, bif_not (fun hf => ?_) (fun hc => ?_)⟩
  · obtain ⟨e1, e2⟩ := tag_bad2 ht (of_decide_eq_false hf)
    exact ⟨by rw [e1, e2], rfl⟩
  · have e := tag_ok ht (of_decide_eq_true hc)
    exact ⟨by rw [tag_or e, tagV_ok e, e], rfl⟩

theorem RTag_c (w : World) (i c : Int) : Does 59 [.int .i64 i, .int .i64 c] w (TagPost w i c) := by
  refine does Tryz.func59 ?_
  rw [bodegaref1_Tag_vc]
  refine at_call (RInc_c w i) ?_
  rintro v w1 ⟨rfl, rfl⟩
  refine ⟨_, rfl, bif_not (fun hf => ?_) (fun ht => ?_)⟩
  · obtain ⟨e1, e2⟩ := tag_bad1 (c := c) hf
    exact ⟨by rw [e1, e2], rfl⟩
  refine at_call (RClient_c w1 c) ?_
  rintro v w2 ⟨rfl, rfl⟩
  refine ⟨_, rfl, bif_not (fun hf => ?_) (fun hc => ?_)⟩
  · obtain ⟨e1, e2⟩ := tag_bad2 ht (of_decide_eq_false hf)
    exact ⟨by rw [e1, e2], rfl⟩
  · have e := tag_ok ht (of_decide_eq_true hc)
    exact ⟨by rw [tag_or e, tagV_ok e, e], rfl⟩

abbrev SplitPost (w : World) (t : Int) : Value → World → Prop := fun x w' => x = .tuple #[.int .i64 (splitI t), .int .i64 (splitC t), .bool (splitB t)] ∧ w' = w

theorem split_no {t : Int} (h : tagE (t / 256) (t % 256 - 1) ≠ 0) : splitI t = 0 ∧ splitC t = 0 ∧ splitB t = false := ⟨if_neg h, if_neg h, decide_eq_false h⟩
theorem split_yes {t : Int} (h : tagE (t / 256) (t % 256 - 1) = 0) : splitI t = t / 256 ∧ splitC t = t % 256 - 1 ∧ splitB t = true := ⟨if_pos h, if_pos h, decide_eq_true h⟩

theorem bshr8 {t : Int} (ht : U64 t) : bshr .u64 t 8 = t / 256 := by
  show Int.fdiv t 256 = _
  rw [Int.fdiv_eq_ediv_of_nonneg _ (by decide)]

theorem WMask_c (w : World) : Does 121 [.int .i64 8] w fun v w' => v = .int .u64 255 ∧ w' = w := by
  refine does Tryz.func121 ?_
  rw [word_mask_vc]
  exact ⟨by decide, by rfl, rfl⟩

theorem WSplitTag_c (w : World) {t : Int} (ht : U64 t) : Does 68 [.int .u64 t] w (SplitPost w t) := by
  have h0 := ht.1
  have h1 := ht.2
  refine does Tryz.func68 ?_
  rw [word_SplitTag_vc]
  rw [bshr8 ht]
  refine bif_dec (fun h => ?_) (fun h => ?_)
  · refine at_call (WMask_c w) ?_
    rintro v w1 ⟨rfl, rfl⟩
    refine ⟨_, rfl, ?_⟩
    have e1 : band .u64 t 255 = t % 256 := band_mask h0 h1 8 (by omega)
    rw [e1, w64 (x := t / 256) (by omega) (by omega), w64 (x := t % 256) (by omega) (by omega), w64 (x := t % 256 - 1) (by omega) (by omega)]
    refine at_call (WTag_c w1 (t / 256) (t % 256 - 1)) ?_
    rintro v w2 ⟨rfl, rfl⟩
    refine ⟨_, _, rfl, bif_bne (fun he => ?_) (fun he => ?_)⟩
    · obtain ⟨a, b, c⟩ := split_no he
      exact ⟨by rw [a, b, c], rfl⟩
    · obtain ⟨a, b, c⟩ := split_yes he
      rw [tagV_ok he]
      refine bif_bne (fun hne => absurd (by omega) hne) (fun _ => ⟨by rw [a, b, c], rfl⟩)
  · have hbig : tagE (t / 256) (t % 256 - 1) = 2 := tagE_big (by have h : ¬ t / 256 ≤ 59 := h; omega)
    obtain ⟨a, b, c⟩ := split_no (t := t) (by rw [hbig]; omega)
    refine at_call (WTag_c w 0 0) ?_
    rintro v w2 ⟨rfl, rfl⟩
    have e0 : tagE 0 0 = 2 := by decide
    refine ⟨_, _, rfl, bif_bne (fun he => ⟨by rw [a, b, c], rfl⟩) (fun he => absurd (e0.symm.trans he) (by decide))⟩

theorem RSplitTag_c (w : World) {t : Int} (ht : U64 t) : Does 71 [.int .u64 t] w (SplitPost w t) := by
  have h0 := ht.1
  have h1 := ht.2
  refine does Tryz.func71 ?_
  rw [bodegaref1_SplitTag_vc]
  have e1 : band .u64 t 255 = t % 256 := band_mask h0 h1 8 (by omega)
  have e2 : band .u64 (t / 256) 16777215 = (t / 256) % 16777216 := band_mask (by omega) (by omega) 24 (by omega)
  rw [bshr8 ht, e1, e2, w64 (x := (t / 256) % 16777216) (by omega) (by omega), w64 (x := t % 256) (by omega) (by omega), w64 (x := t % 256 - 1) (by omega) (by omega)]
  refine at_call (RTag_c w (t / 256 % 16777216) (t % 256 - 1)) ?_
  rintro v w2 ⟨rfl, rfl⟩
  by_cases hb : t / 256 ≤ 59
  · have e3 : t / 256 % 16777216 = t / 256 := by omega
    rw [e3]
    refine ⟨_, _, rfl, bif_bne (fun he => ?_) (fun he => ?_)⟩
    · obtain ⟨a, b, c⟩ := split_no he
      exact ⟨by rw [a, b, c], rfl⟩
    · obtain ⟨a, b, c⟩ := split_yes he
      rw [tagV_ok he]
      refine bif_bne (fun hne => absurd (by omega) hne) (fun _ => ⟨by rw [a, b, c], rfl⟩)
  · have hbig : tagE (t / 256) (t % 256 - 1) = 2 := tagE_big (by omega)
    obtain ⟨a, b, c⟩ := split_no (t := t) (by rw [hbig]; omega)
    refine ⟨_, _, rfl, bif_bne (fun he => ⟨by rw [a, b, c], rfl⟩) (fun he => ?_)⟩
    have hz := tagE_zero he
    rw [tagV_ok he]
    exact bif_bne (fun _ => ⟨by rw [a, b, c], rfl⟩) (fun e => by omega)

/-! ### Jobs -/

structure RJob where
  client : Int
  inc : Int
  lines : Int
  v : Vw
  dead : Int
  door : Int
  prev : Int

def RJob.tail (j : RJob) : Int :=
  if j.lines < 98 ∨ 256 < j.lines then 18 else if j.dead = j.client ∧ j.door ≠ j.inc then 1
  else if j.dead ≠ j.client ∧ (j.door < 2 ∨ 60 < j.door ∨ Int.tmod j.door 2 ≠ 0) then 2
  else if j.prev ≠ 0 ∧ (splitB j.prev = false ∨ splitC j.prev = j.client ∧ j.inc ≤ splitI j.prev ∨ splitC j.prev = j.dead ∧ j.door ≤ splitI j.prev) then 1 else 0
def RJob.valid (j : RJob) : Int :=
  if tagE j.inc j.client ≠ 0 then tagE j.inc j.client else if j.dead < 0 ∨ 6 ≤ j.dead then 1 else if j.v.valid 5 ≠ 0 then j.v.valid 5 else j.tail

structure RJobAt (w : World) (r : RecoveryJobR) (j : RJob) : Prop where
  client : r.Client = j.client
  inc : r.Inc = j.inc
  lines : r.Lines = j.lines
  view : ∃ M, ViewAt M w r.View j.v
  dead : r.Dead = j.dead
  door : r.Door = j.door
  prev : r.Prev = j.prev
  u64 : U64 r.Prev
theorem RJobAt.new {w w' : World} {r : RecoveryJobR} {j : RJob} (h : RJobAt w r j) (hn : New w w') : RJobAt w' r j := ⟨h.client, h.inc, h.lines, h.view.imp fun _ h => h.new hn, h.dead, h.door, h.prev, h.u64⟩

def refRJob (r : RecoveryJobR) : Bodegaref9RecoverJobR := ⟨r.Client, r.Inc, r.Lines, r.View, r.Dead, r.Door, r.Prev⟩

theorem ROwn_c (w : World) (r : RecoveryJobR) : Does 21 [r.val] w fun x w' => x = (refRJob r).val ∧ New w w' := by
  refine does Tryz.func21 ?_
  rw [bodegalaw13_own_vc]
  rintro b1 w1 hb1 hw1
  obtain ⟨hz1, hn1⟩ := box_new hb1 hw1
  have hz1 : Blk w1 b1 r.cells 58 := hz1
  clear hw1
  rintro b2 w2 hb2 hw2
  obtain ⟨hz2, hn2⟩ := box_new hb2 hw2
  have hz2 : Blk w2 b2 (Bodegaref9RecoverJobR.cells ⟨0, 0, 0, ⟨0, none, 0, 0⟩, 0, 0, 0⟩) 64 := hz2
  clear hw2
  have hz12 := New.blk hn2 hz1
  have hs := hn1.size
  refine ⟨_, hz12.cell (i := 0) rfl, _, hz12.cell (i := 1) rfl, _, hz12.cell (i := 2) rfl, ApiViewR.mk_ex r.View ⟨cellsAt_blk hz12 rfl, _, hz12.cell (i := 5) rfl, _, hz12.cell (i := 6) rfl, _, hz12.cell (i := 7) rfl, ?_⟩⟩
  refine put_k (vs := (refRJob r).cells) hz2 rfl (Bodegaref9RecoverJobR.single _) fun w3 hz3 hk3 => ?_
  refine Bodegaref9RecoverJobR.mk_ex (refRJob r) ⟨cellsAt_blk hz3 rfl, rfl, rfl, ?_⟩
  exact (hn1.new hn2).trans hk3 fun k hlt e => by omega
end Go.Proofs.YtppcleiekdbndaaGreat
