/- The reference of recovery.Valid. -/
import Derived.Test.YtppcleiekdbndaaGreatRV1
set_option linter.unusedVariables false
namespace Go.Proofs.YtppcleiekdbndaaGreat
open Go.Eng

def tailT (cl inc li dead door prev tm p c : Int) : Int :=
  if li < 98 ∨ 256 < li then 18 else if dead = cl ∧ door ≠ inc then 1 else if dead ≠ cl ∧ (door < 2 ∨ 60 < door ∨ tm ≠ 0) then 2
  else if prev ≠ 0 ∧ (c = cl ∧ inc ≤ p ∨ c = dead ∧ door ≤ p) then 1 else 0
def tailF (cl inc li dead door prev tm : Int) : Int :=
  if li < 98 ∨ 256 < li then 18 else if dead = cl ∧ door ≠ inc then 1 else if dead ≠ cl ∧ (door < 2 ∨ 60 < door ∨ tm ≠ 0) then 2
  else if prev ≠ 0 then 1 else 0

theorem tail_T {cl inc li dead door prev : Int} {v : Vw} (h : splitB prev = true) : RJob.tail ⟨cl, inc, li, v, dead, door, prev⟩ = tailT cl inc li dead door prev (Int.tmod door 2) (splitI prev) (splitC prev) := by
  unfold RJob.tail tailT
  dsimp only
  rw [h]
  simp only [Bool.true_eq_false, false_or]
theorem tail_F {cl inc li dead door prev : Int} {v : Vw} (h : splitB prev = false) : RJob.tail ⟨cl, inc, li, v, dead, door, prev⟩ = tailF cl inc li dead door prev (Int.tmod door 2) := by
  unfold RJob.tail tailF
  dsimp only
  rw [h]
  simp only [true_or, and_true]

set_option maxHeartbeats 4000000 in
theorem R13Ref_c {w : World} {r : RecoveryJobR} {j : RJob} (h : RJobAt w r j) : Does 20 [(refRJob r).val] w fun x w' => x = .int .i64 j.valid ∧ New w w' := by
  refine does Tryz.func20 ?_
  rw [bodegaref9_ValidRecover_vc]
  rintro b1 w1 hb1 hw1
  obtain ⟨hz, hn⟩ := box_new hb1 hw1
  have hz : Blk w1 b1 [.int .i64 r.Client, .int .i64 r.Inc, .int .i64 r.Lines, .int .i64 r.View.Number, .slice r.View.Members r.View.Members_l r.View.Members_c, .int .i64 r.Dead, .int .i64 r.Door, .int .u64 r.Prev] 64 := hz
  clear hw1 hb1
  obtain ⟨e1, e2, e3, ⟨MM, hview⟩, e4, e5, e6, hu⟩ := h
  obtain ⟨jc, ji, jl, jv, jd, jo, jp⟩ := j
  simp only at e1 e2 e3 hview e4 e5 e6
  subst e1 e2 e3 e4 e5 e6
  refine ⟨_, hz.cell (i := 1) rfl, _, hz.cell (i := 0) rfl, ?_⟩
  refine at_call (RTag_c w1 r.Inc r.Client) ?_
  rintro x w2 ⟨rfl, rfl⟩
  unfold RJob.valid
  try dsimp only
  refine ⟨_, _, rfl, bif_bne (fun he => ⟨by rw [if_pos he], hn⟩) (fun he => ⟨_, hz.cell (i := 5) rfl, ?_⟩)⟩
  rw [if_neg (fun e => e he)]
  refine at_call (RClient_c w2 r.Dead) ?_
  rintro x w3 ⟨rfl, rfl⟩
  refine ⟨_, rfl, bif_not (fun hd => ⟨by rw [if_pos (by have := of_decide_eq_false hd; omega)], hn⟩) (fun hd => ApiViewR.mk_ex r.View ⟨cellsAt_blk hz rfl, ?_⟩)⟩
  rw [if_neg (by have := of_decide_eq_true hd; omega)]
  refine at_call (RValid_c (hview.new hn) 5) ?_
  rintro x w4 ⟨rfl, hn3⟩
  have hz := New.blk hn3 hz
  have hn := hn.new hn3
  refine ⟨_, rfl, bif_bne (fun hv => ⟨by rw [if_pos hv], hn⟩) (fun hv => ?_)⟩
  rw [if_neg (fun e => e hv)]
  have hsp : ∀ u, Does 71 [.int .u64 r.Prev] u fun x w' => x = .tuple #[.int .i64 (splitI r.Prev), .int .i64 (splitC r.Prev), .bool (splitB r.Prev)] ∧ w' = u := fun u => RSplitTag_c u hu
  clear hn3 he hd hv hview
  cases hok : splitB r.Prev with
  | true =>
    rw [tail_T hok]
    rw [hok] at hsp
    generalize splitI r.Prev = p at hsp ⊢
    generalize splitC r.Prev = c at hsp ⊢
    repeat' first
      | refine ⟨_, hz.cell rfl, ?_⟩
      | (refine at_call (hsp _) ?_; rintro _ _ ⟨rfl, rfl⟩; refine ⟨_, _, _, rfl, ?_⟩)
      | refine bif_f (b := !true) rfl ?_
      | refine bif_t (b := !false) rfl ?_
      | refine bif_beq (fun _ => ?_) (fun _ => ?_)
      | refine bif_bne (fun _ => ?_) (fun _ => ?_)
      | refine bif_dec (fun _ => ?_) (fun _ => ?_)
    all_goals
      refine ⟨congrArg _ ?_, hn⟩
      unfold tailT
      repeat' split
      all_goals omega
  | false =>
    rw [tail_F hok]
    rw [hok] at hsp
    generalize splitI r.Prev = p at hsp ⊢
    generalize splitC r.Prev = c at hsp ⊢
    repeat' first
      | refine ⟨_, hz.cell rfl, ?_⟩
      | (refine at_call (hsp _) ?_; rintro _ _ ⟨rfl, rfl⟩; refine ⟨_, _, _, rfl, ?_⟩)
      | refine bif_f (b := !true) rfl ?_
      | refine bif_t (b := !false) rfl ?_
      | refine bif_beq (fun _ => ?_) (fun _ => ?_)
      | refine bif_bne (fun _ => ?_) (fun _ => ?_)
      | refine bif_dec (fun _ => ?_) (fun _ => ?_)
    all_goals
      refine ⟨congrArg _ ?_, hn⟩
      unfold tailF
      repeat' split
      all_goals omega
end Go.Proofs.YtppcleiekdbndaaGreat
