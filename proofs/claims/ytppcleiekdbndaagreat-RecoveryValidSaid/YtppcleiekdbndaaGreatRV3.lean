/- recovery.Valid. -/
import Derived.Test.YtppcleiekdbndaaGreatRV2
import Derived.Test.YtppcleiekdbndaaGreatCodeRW
set_option linter.unusedVariables false
namespace Go.Proofs.YtppcleiekdbndaaGreat
open Go.Eng

def splitFin (r : RecoveryJobR) (ok : Bool) (p c : Int) : Int := if r.Prev ≠ 0 ∧ ok = false then 1 else if r.Prev ≠ 0 ∧ (c = r.Client ∧ r.Inc ≤ p ∨ c = r.Dead ∧ r.Door ≤ p) then 1 else 0

theorem qr_q {P : Program} {fn : Func} {R : Value → World → Prop} {Q : Exit → List Value → World → Prop} {c : Code} {env : List Value} {w : World} (h' : ∀ env w, Q .ret env w = retQ P fn R .ret env w) (h : W P c env (Qr P fn R Q) w) : W P c env Q w := (W_qr h').mp h
theorem qr_r {P : Program} {fn : Func} {R : Value → World → Prop} {Q : Exit → List Value → World → Prop} {c : Code} {env : List Value} {w : World} (h' : ∀ env w, Q .ret env w = retQ P fn R .ret env w) (h : W P c env Q w) : W P c env (Qr P fn R Q) w := (W_qr h').mpr h

section
variable {R : Value → World → Prop} {u : World} {b1 : Nat} {r : RecoveryJobR} {p c : Int} {ok : Bool} {Q : Exit → List Value → World → Prop}
  (hz : Blk u b1 [.int .i64 r.Client, .int .i64 r.Inc, .int .i64 r.Lines, .int .i64 r.View.Number, .slice r.View.Members r.View.Members_l r.View.Members_c, .int .i64 r.Dead, .int .i64 r.Door, .int .u64 r.Prev] 58) (hQ : ∀ env w, Q .ret env w = retQ Tryz.prog Tryz.f19 R .ret env w)
include hz hQ

set_option maxHeartbeats 1000000 in
theorem V11 (h1 : r.Prev ≠ 0 ∧ (c = r.Client ∧ r.Inc ≤ p ∨ c = r.Dead ∧ r.Door ≤ p) → R (.int .i64 1) u) (h0 : ¬ (r.Prev ≠ 0 ∧ (c = r.Client ∧ r.Inc ≤ p ∨ c = r.Dead ∧ r.Door ≤ p)) → ∀ jj, Q .normal (recovery_Valid_aft14 jj) u) (jj : List Value) :
    W Tryz.prog (sub (bodyOf Tryz.f19) [1, 1, 1, 1, 1, 0, 0, 1, 1, 1, 1, 1, 1, 1, 1]) (recovery_Valid_aft11 ⟨b1, 0, none⟩ p c jj) Q u := by
  rw [recovery_Valid_aft11_split]
  refine qr_q (P := Tryz.prog) (fn := Tryz.f19) (R := R) hQ ?_
  rw [recovery_Valid_aft11_vc]
  repeat' first
    | refine ⟨_, hz.cell rfl, ?_⟩
    | refine bif_beq (fun _ => ?_) (fun _ => ?_)
    | refine bif_bne (fun _ => ?_) (fun _ => ?_)
    | refine bif_dec (fun _ => ?_) (fun _ => ?_)
  all_goals
    rw [recovery_Valid_aft12_vc]
    refine seqQ_n ?_
    refine qr_q (P := Tryz.prog) (fn := Tryz.f19) (R := R) hQ ?_
    rw [recovery_Valid_aft13_vc]
    refine bif_b (fun hb => h1 ?_) (fun hb => h0 ?_ _)
  all_goals first | omega | (have hb := of_decide_eq_true hb; omega) | (have hb := of_decide_eq_false hb; omega) | (exact absurd hb (by simp))

set_option maxHeartbeats 1000000 in
theorem V9 (hb1 : r.Prev ≠ 0 ∧ ok = false → R (.int .i64 1) u) (h1 : r.Prev ≠ 0 ∧ (c = r.Client ∧ r.Inc ≤ p ∨ c = r.Dead ∧ r.Door ≤ p) → R (.int .i64 1) u)
    (h0 : ¬ (r.Prev ≠ 0 ∧ ok = false) → ¬ (r.Prev ≠ 0 ∧ (c = r.Client ∧ r.Inc ≤ p ∨ c = r.Dead ∧ r.Door ≤ p)) → ∀ jj, Q .normal (recovery_Valid_aft14 jj) u) (jj : List Value) :
    W Tryz.prog (sub (bodyOf Tryz.f19) [1, 1, 1, 1, 1, 0, 0, 1, 1, 1, 1, 1, 1]) (recovery_Valid_aft9 ⟨b1, 0, none⟩ p c ok jj) Q u := by
  rw [recovery_Valid_aft9_split]
  refine qr_q (P := Tryz.prog) (fn := Tryz.f19) (R := R) hQ ?_
  rw [recovery_Valid_aft9_vc]
  refine ⟨_, hz.cell rfl, bif_bne (fun hp => ?_) (fun hp => ?_)⟩
  · refine seqQ_n ?_
    refine qr_q (P := Tryz.prog) (fn := Tryz.f19) (R := R) hQ ?_
    rw [recovery_Valid_aft10_vc]
    refine bif_not (fun hb => hb1 ⟨hp, hb⟩) (fun hb => ?_)
    exact qr_r hQ <| V11 hz hQ h1 (h0 (fun e => by rw [hb] at e; cases e.2)) _
  · refine seqQ_n ?_
    refine qr_q (P := Tryz.prog) (fn := Tryz.f19) (R := R) hQ ?_
    rw [recovery_Valid_aft10_vc]
    refine bif_f rfl ?_
    exact qr_r hQ <| V11 hz hQ h1 (h0 (fun e => e.1 hp)) _

set_option maxHeartbeats 1000000 in
theorem V5 (hR : R (.int .i64 (if r.Dead = r.Client ∧ r.Door ≠ r.Inc then 1 else if r.Dead ≠ r.Client ∧ (r.Door < 2 ∨ 60 < r.Door ∨ Int.tmod r.Door 2 ≠ 0) then 2 else splitFin r ok p c)) u)
    (h0 : R (.int .i64 0) u → ∀ jj, Q .normal (recovery_Valid_aft14 jj) u) (jj : List Value) :
    W Tryz.prog (sub (bodyOf Tryz.f19) [1, 1, 1, 1, 1, 0, 0, 1, 1]) (recovery_Valid_aft5 ⟨b1, 0, none⟩ p c ok jj) Q u := by
  have V9' : ∀ jj, R (.int .i64 (splitFin r ok p c)) u → W Tryz.prog (sub (bodyOf Tryz.f19) [1, 1, 1, 1, 1, 0, 0, 1, 1, 1, 1, 1, 1]) (recovery_Valid_aft9 ⟨b1, 0, none⟩ p c ok jj) Q u := fun jj h => by
    unfold splitFin at h
    refine V9 hz hQ (fun e => ?_) (fun e => ?_) (fun e1 e2 => h0 ?_) jj
    · rw [if_pos e] at h; exact h
    · by_cases e' : r.Prev ≠ 0 ∧ ok = false
      · rw [if_pos e'] at h; exact h
      · rw [if_neg e', if_pos e] at h; exact h
    · rw [if_neg e1, if_neg e2] at h; exact h
  rw [recovery_Valid_aft5_split]
  refine qr_q (P := Tryz.prog) (fn := Tryz.f19) (R := R) hQ ?_
  rw [recovery_Valid_aft5_vc]
  have J7 : ∀ jj, ¬ (r.Dead = r.Client ∧ r.Door ≠ r.Inc) → W Tryz.prog (sub (bodyOf Tryz.f19) [1, 1, 1, 1, 1, 0, 0, 1, 1, 1, 1]) (recovery_Valid_aft7 ⟨b1, 0, none⟩ p c ok jj) Q u := fun jj h7 => by
    rw [if_neg h7] at hR
    rw [recovery_Valid_aft7_split]
    refine qr_q (P := Tryz.prog) (fn := Tryz.f19) (R := R) hQ ?_
    rw [recovery_Valid_aft7_vc]
    have J8 : ∀ (b : Bool) jj, (b = true ↔ r.Dead ≠ r.Client ∧ (r.Door < 2 ∨ 60 < r.Door ∨ Int.tmod r.Door 2 ≠ 0)) → W Tryz.prog (sub (bodyOf Tryz.f19) [1, 1, 1, 1, 1, 0, 0, 1, 1, 1, 1, 1]) (recovery_Valid_aft8 ⟨b1, 0, none⟩ p c ok b jj) Q u := fun b jj hb => by
      refine qr_q (P := Tryz.prog) (fn := Tryz.f19) (R := R) hQ ?_
      rw [recovery_Valid_aft8_vc]
      refine bif_b (fun e => ?_) (fun e => qr_r hQ <| V9' _ ?_)
      · rw [if_pos (hb.1 e)] at hR; exact hR
      · rw [if_neg (fun e' => by rw [hb.2 e'] at e; cases e)] at hR; exact hR
    repeat' first
      | refine ⟨_, hz.cell rfl, ?_⟩
      | refine bif_beq (fun _ => ?_) (fun _ => ?_)
      | refine bif_bne (fun _ => ?_) (fun _ => ?_)
      | refine bif_dec (fun _ => ?_) (fun _ => ?_)
    all_goals
      refine seqQ_n (J8 _ _ ?_)
    all_goals first | (simp; omega) | (simp only [bne_iff_ne]; omega) | (constructor <;> intro _ <;> first | rfl | omega)
  have J6 : ∀ (b : Bool) jj, (b = true ↔ r.Dead = r.Client ∧ r.Door ≠ r.Inc) → W Tryz.prog (sub (bodyOf Tryz.f19) [1, 1, 1, 1, 1, 0, 0, 1, 1, 1]) (recovery_Valid_aft6 ⟨b1, 0, none⟩ p c ok b jj) Q u := fun b jj hb => by
    refine qr_q (P := Tryz.prog) (fn := Tryz.f19) (R := R) hQ ?_
    rw [recovery_Valid_aft6_vc]
    refine bif_b (fun e => ?_) (fun e => qr_r hQ <| J7 _ (fun e' => by rw [hb.2 e'] at e; cases e))
    rw [if_pos (hb.1 e)] at hR; exact hR
  repeat' first
    | refine ⟨_, hz.cell rfl, ?_⟩
    | refine bif_beq (fun _ => ?_) (fun _ => ?_)
    | refine bif_bne (fun _ => ?_) (fun _ => ?_)
    | refine bif_dec (fun _ => ?_) (fun _ => ?_)
  all_goals
    refine seqQ_n (J6 _ _ ?_)
  all_goals first | (simp; omega) | (simp only [bne_iff_ne]; omega) | (constructor <;> intro _ <;> first | rfl | omega)

theorem V4 {b : Bool} (hb : b = true ↔ r.Lines < 98 ∨ 256 < r.Lines) (hR : R (.int .i64 (if r.Lines < 98 ∨ 256 < r.Lines then 18 else if r.Dead = r.Client ∧ r.Door ≠ r.Inc then 1 else if r.Dead ≠ r.Client ∧ (r.Door < 2 ∨ 60 < r.Door ∨ Int.tmod r.Door 2 ≠ 0) then 2 else splitFin r ok p c)) u)
    (h0 : R (.int .i64 0) u → ∀ jj, Q .normal (recovery_Valid_aft14 jj) u) (jj : List Value) :
    W Tryz.prog (sub (bodyOf Tryz.f19) [1, 1, 1, 1, 1, 0, 0, 1]) (recovery_Valid_aft4 ⟨b1, 0, none⟩ p c ok b jj) Q u := by
  refine qr_q (P := Tryz.prog) (fn := Tryz.f19) (R := R) hQ ?_
  rw [recovery_Valid_aft4_vc]
  refine bif_b (fun e => ?_) (fun e => qr_r hQ <| V5 hz hQ ?_ h0 _)
  · rw [if_pos (hb.1 e)] at hR; exact hR
  · rw [if_neg (fun e' => by rw [hb.2 e'] at e; cases e)] at hR; exact hR
end

abbrev VPost (w : World) (k : Int) : Value → World → Prop := fun x w' => x = .int .i64 k ∧ New w w'

set_option maxHeartbeats 1000000 in
theorem R13Valid_c {w : World} {r : RecoveryJobR} {j : RJob} (h : RJobAt w r j) : Does 19 [r.val] w (VPost w j.valid) := by
  refine does Tryz.func19 ?_
  rw [recovery_Valid_vc]
  rintro b1 w1 hb1 hw1
  obtain ⟨hz, hn⟩ := box_new hb1 hw1
  have hz : Blk w1 b1 [.int .i64 r.Client, .int .i64 r.Inc, .int .i64 r.Lines, .int .i64 r.View.Number, .slice r.View.Members r.View.Members_l r.View.Members_c, .int .i64 r.Dead, .int .i64 r.Door, .int .u64 r.Prev] 58 := hz
  clear hw1 hb1
  obtain ⟨e1, e2, e3, ⟨MM, hview⟩, e4, e5, e6, hu⟩ := h
  have hval : j.valid = if tagE r.Inc r.Client ≠ 0 then tagE r.Inc r.Client else if r.Dead < 0 ∨ 6 ≤ r.Dead then 1 else if j.v.valid 5 ≠ 0 then j.v.valid 5 else if r.Lines < 98 ∨ 256 < r.Lines then 18 else if r.Dead = r.Client ∧ r.Door ≠ r.Inc then 1 else if r.Dead ≠ r.Client ∧ (r.Door < 2 ∨ 60 < r.Door ∨ Int.tmod r.Door 2 ≠ 0) then 2 else splitFin r (splitB r.Prev) (splitI r.Prev) (splitC r.Prev) := by
    unfold RJob.valid RJob.tail splitFin
    rw [e1, e2, e3, e4, e5, e6]
    cases hB : splitB j.prev <;> by_cases hp : j.prev = 0 <;> simp [hp]
  rw [hval]
  clear hval e1 e2 e3 e4 e5 e6
  refine ⟨_, hz.cell (i := 1) rfl, _, hz.cell (i := 0) rfl, ?_⟩
  refine at_call (WTag_c w1 r.Inc r.Client) ?_
  rintro x w2 ⟨rfl, rfl⟩
  refine ⟨_, _, rfl, bif_bne (fun he => ⟨by rw [if_pos he], hn⟩) (fun he => ?_)⟩
  rw [if_neg (fun e => e he), recovery_Valid_aft1_split, recovery_Valid_aft1_split1]
  refine qr_q (fun _ _ => rfl) ?_
  rw [recovery_Valid_aft1_vc]
  generalize hV : (if r.Dead < 0 ∨ 6 ≤ r.Dead then (1 : Int) else _) = V
  have J2 : ∀ (b : Bool) jj, (b = true ↔ r.Dead < 0 ∨ 6 ≤ r.Dead) → W Tryz.prog (sub (bodyOf Tryz.f19) [1, 1, 0, 1]) (recovery_Valid_aft2 ⟨b1, 0, none⟩ b jj) (seqQ (fun env z => W Tryz.prog (sub (bodyOf Tryz.f19) [1, 1, 1]) env (retQ Tryz.prog Tryz.f19 (VPost w V)) z) (retQ Tryz.prog Tryz.f19 (VPost w V))) w2 := fun b jj hb => by
    refine qr_q (P := Tryz.prog) (fn := Tryz.f19) (R := VPost w V) (fun _ _ => rfl) ?_
    rw [recovery_Valid_aft2_vc]
    refine bif_b (fun e => ⟨by rw [← hV, if_pos (hb.1 e)], hn⟩) (fun e => ?_)
    rw [if_neg (fun e' => by rw [hb.2 e'] at e; cases e)] at hV
    refine seqQ_n ?_
    refine qr_q (P := Tryz.prog) (fn := Tryz.f19) (R := VPost w V) (fun _ _ => rfl) ?_
    rw [recovery_Valid_aft3_vc]
    refine ApiViewR.mk_ex r.View ⟨cellsAt_blk hz rfl, ?_⟩
    refine at_call (VValid_c (hview.new hn) 5) ?_
    rintro x w3 ⟨rfl, hn3⟩
    have hz := New.blk hn3 hz
    have hn := hn.new hn3
    refine ⟨_, rfl, bif_bne (fun hv => ⟨by rw [← hV, if_pos hv], hn⟩) (fun hv => ⟨_, hz.cell (i := 7) rfl, ?_⟩)⟩
    rw [if_neg (fun e => e hv)] at hV
    refine at_call (WSplitTag_c w3 hu) ?_
    rintro x w4 ⟨rfl, rfl⟩
    have fin : VPost w V (.int .i64 0) w4 → ∀ jj, W Tryz.prog (sub (bodyOf Tryz.f19) [1, 1, 1, 1, 1, 1]) (recovery_Valid_aft14 jj) (Qr Tryz.prog Tryz.f19 (VPost w V) (retQ Tryz.prog Tryz.f19 (VPost w V))) w4 := fun h jj => by
      rw [recovery_Valid_aft14_vc]
      exact h
    have hfin : VPost w V (.int .i64 V) w4 := ⟨rfl, hn⟩
    refine ⟨_, _, _, rfl, _, hz.cell (i := 2) rfl, bif_dec (fun hl => ?_) (fun hl => ⟨_, hz.cell (i := 2) rfl, ?_⟩)⟩
    · refine V4 (R := VPost w V) hz ?_ ?_ ?_ ?_ _
      · exact fun _ _ => rfl
      · simp; omega
      · rw [hV]; exact hfin
      · exact fun h jj => blockQ_n (seqQ_n (fin h jj))
    · refine V4 (R := VPost w V) hz ?_ ?_ ?_ ?_ _
      · exact fun _ _ => rfl
      · simp; omega
      · rw [hV]; exact hfin
      · exact fun h jj => blockQ_n (seqQ_n (fin h jj))
  refine ⟨_, hz.cell (i := 5) rfl, bif_dec (fun hd => seqQ_n (J2 _ _ ?_)) (fun hd => ⟨_, hz.cell (i := 5) rfl, seqQ_n (J2 _ _ ?_)⟩)⟩
  · simp; omega
  · simp; omega
end Go.Proofs.YtppcleiekdbndaaGreat
