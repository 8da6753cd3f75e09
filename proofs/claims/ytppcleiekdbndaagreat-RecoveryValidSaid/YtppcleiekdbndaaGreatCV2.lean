/- Valid jobs of package commit. -/
import Derived.Test.YtppcleiekdbndaaGreatCV1
set_option linter.unusedVariables false
namespace Go.Proofs.YtppcleiekdbndaaGreat
open Go.Eng

def snrows (l : List ApiSeenR) : List (List Value) := l.map ApiSeenR.cells
def noS : ApiSeenR := ⟨0, 0⟩
def ascS (R : List ApiSeenR) (i : Nat) : Bool := decide (i = 0) || decide ((R.getD (i - 1) noS).Line < (R.getD i noS).Line)
def has (W : List ApiPageR) (line : Int) : Bool := W.any fun p => decide (p.Line = line)
def seenOk (R : List ApiSeenR) (W : List ApiPageR) (i : Nat) : Bool := (ascS R i && unl (R.getD i noS).Head) && !has W (R.getD i noS).Line

structure CJob where
  client : Int
  seq : Int
  lines : Int
  v : Vw
  reads : List ApiSeenR
  writes : List ApiPageR

def CJob.valid (j : CJob) : Int :=
  if j.client < 0 ∨ 6 ≤ j.client then 1 else if j.v.valid 5 ≠ 0 then j.v.valid 5 else if j.lines < 98 ∨ 256 < j.lines then 18
  else if 0 < j.writes.length ∧ rvalid j.seq j.writes j.lines ≠ 0 then rvalid j.seq j.writes j.lines else if 24 < j.reads.length then 18
  else if j.reads.all (fun s => inHeap s.Line j.lines) = false then 2 else if (List.range j.reads.length).all (seenOk j.reads j.writes) = false then 1 else 0

structure CJobAt (w : World) (r : CommitJobR) (j : CJob) : Prop where
  client : r.Client = j.client
  seq : r.Seq = j.seq
  lines : r.Lines = j.lines
  view : ∃ M, ViewAt M w r.View j.v
  rd : Rd w r.Reads (snrows j.reads).flatten
  len : r.Reads_l = j.reads.length
  few : j.reads.length ≤ 1000000
  pg : PgsAt w r.Writes r.Writes_l j.writes
theorem CJobAt.new {w w' : World} {r : CommitJobR} {j : CJob} (h : CJobAt w r j) (hn : New w w') : CJobAt w' r j := ⟨h.client, h.seq, h.lines, h.view.imp fun _ h => h.new hn, h.rd.new hn, h.len, h.few, h.pg.new hn⟩

theorem Record_c (w : World) (r : CommitJobR) : Does 215 [r.val] w fun x w' => x = LogrecRecordR.val ⟨r.Seq, r.Writes, r.Writes_l, r.Writes_c⟩ ∧ New w w' := by
  refine does Tryz.func215 ?_
  rw [commit_Job_record_vc]
  rintro b1 w1 hb1 hw1
  obtain ⟨hz1, hn1⟩ := box_new hb1 hw1
  have hz1 : Blk w1 b1 r.cells 131 := hz1
  clear hw1
  rintro b2 w2 hb2 hw2
  obtain ⟨hz2, hn2⟩ := box_new hb2 hw2
  have hz2 : Blk w2 b2 (LogrecRecordR.cells ⟨0, none, 0, 0⟩) 329 := hz2
  clear hw2
  have hz12 := New.blk hn2 hz1
  have hs := hn1.size
  refine ⟨_, hz12.cell (i := 1) rfl, _, _, _, hz12.cell (i := 6) rfl, ?_⟩
  refine put_k (vs := LogrecRecordR.cells ⟨r.Seq, r.Writes, r.Writes_l, r.Writes_c⟩) hz2 rfl (LogrecRecordR.single _) fun w3 hz3 hk3 => ?_
  refine LogrecRecordR.mk_ex ⟨r.Seq, r.Writes, r.Writes_l, r.Writes_c⟩ ⟨cellsAt_blk hz3 rfl, rfl, rfl, ?_⟩
  exact (hn1.new hn2).trans hk3 fun k hlt e => by omega

theorem JWrites_c {w : World} {r : CommitJobR} {W : List ApiPageR} (h : PgsAt w r.Writes r.Writes_l W) (line : Int) : Does 218 [r.val, .int .i64 line] w fun x w' => x = .bool (has W line) ∧ New w w' := by
  refine does Tryz.func218 ?_
  rw [commit_Job_writes_vc]
  rintro b1 w1 hb1 hw1
  obtain ⟨hz1, hn1⟩ := box_new hb1 hw1
  have hz1 : Blk w1 b1 r.cells 131 := hz1
  clear hw1
  have hlen := h.len
  have hfew := h.few
  refine ⟨_, _, _, hz1.cell (i := 6) rfl, ?_⟩
  refine loop_rule mix (fun m env u => ∃ (i : Nat) (jj : List Value), m = W.length - i ∧ i ≤ W.length ∧ env = commit_Job_writes_env1 line r.Writes r.Writes_l r.Writes_c r.Writes_l i jj ∧ New w u ∧ has (W.take i) line = false) W.length
    ⟨0, _, by omega, by omega, rfl, hn1, rfl⟩ ?_
  rintro m env u ⟨i, jj, rfl, hi, rfl, hnu, hno⟩
  rw [commit_Job_writes_loop1_body]
  refine bif_dec (fun hq => ?_) (fun hq => ?_)
  · have hlt : i < W.length := by omega
    have hg : W[i]? = some W[i] := List.getElem?_eq_getElem hlt
    refine rd_rec (cells := ApiPageR.cells) ApiPageR.len (by omega) (h.rd.new hnu) hg rfl hlen fun b o hc _ => ApiPageR.mk_ex W[i] ⟨hc, ?_⟩
    refine box_k (vs := W[i].cells) rfl (ApiPageR.single _) fun b3 u2 hb3 hz3 hn3 => ?_
    refine ⟨_, hz3.cell (i := 0) rfl, bif_beq (fun he => ⟨?_, hnu.new hn3⟩) (fun he => ?_)⟩
    · have : has W line = true := List.any_eq_true.2 ⟨W[i], List.getElem_mem hlt, by simpa using he⟩
      rw [this]
    · rw [w64 (by omega) (by omega)]
      refine ⟨W.length - (i + 1), by omega, i + 1, _, rfl, by omega, rfl, hnu.new hn3, ?_⟩
      unfold has
      rw [List.take_add_one, hg, List.any_append]
      have := hno
      unfold has at this
      rw [this]
      simpa using he
  · rw [commit_Job_writes_aft1_vc]
    have ht : W.take i = W := List.take_of_length_le (by omega)
    rw [ht] at hno
    exact ⟨by rw [hno], hnu⟩

theorem RClient_c (w : World) (c : Int) : Does 69 [.int .i64 c] w fun v w' => v = .bool (decide (0 ≤ c ∧ c < 6)) ∧ w' = w := by
  refine does Tryz.func69 ?_
  rw [bodegaref1_Client_vc]
  refine bif_dec (fun h => ⟨?_, rfl⟩) (fun h => ⟨?_, rfl⟩)
  · have : 0 ≤ c := h
    simp [this]
  · have : ¬ 0 ≤ c := h
    simp [this]

set_option maxHeartbeats 1000000 in
theorem RRecord_c {w : World} {r : Bodegaref4RecordR} {W : List ApiPageR} (h : PgsAt w r.Writes r.Writes_l W) (lines : Int) : Does 157 [r.val, .int .i64 lines] w fun x w' => x = .int .i64 (rvalid r.Seq W lines) ∧ New w w' := by
  refine does Tryz.func157 ?_
  rw [bodegaref4_ValidRecord_vc]
  rintro b1 w1 hb1 hw1
  obtain ⟨hz1, hn⟩ := box_new hb1 hw1
  have hz1 : Blk w1 b1 r.cells 225 := hz1
  clear hw1
  have hlen := h.len
  have hfew := h.few
  unfold rvalid
  refine bif_dec (fun hp => ?_) (fun hp => bif_dec (fun hp1 => ?_) (fun hp1 => ⟨_, hz1.cell (i := 0) rfl, bif_dec (fun hp2 => ?_) (fun hp2 => ⟨_, hz1.cell (i := 0) rfl, bif_dec (fun hp3 => ?_) (fun hp3 => ⟨_, _, _, hz1.cell (i := 1) rfl, bif_dec (fun hp4 => ?_) (fun hp4 => ⟨_, _, _, hz1.cell (i := 1) rfl, bif_dec (fun hp5 => ?_) (fun hp5 => ?_)⟩)⟩)⟩)⟩))
  · rw [if_pos (by omega)]; exact ⟨rfl, hn⟩
  · rw [if_pos (by omega)]; exact ⟨rfl, hn⟩
  · rw [if_neg (by omega), if_pos (by omega)]; exact ⟨rfl, hn⟩
  · rw [if_neg (by omega), if_pos (by omega)]; exact ⟨rfl, hn⟩
  · rw [if_neg (by omega), if_pos (by omega)]; exact ⟨rfl, hn⟩
  · rw [if_neg (by omega), if_pos (by omega)]; exact ⟨rfl, hn⟩
  rw [if_neg (by omega), if_neg (by omega)]
  refine loop_rule mix (fun m env u => ∃ (i : Nat) (jj : List Value), m = W.length - i ∧ i ≤ W.length ∧ env = bodegaref4_ValidRecord_env1 lines ⟨b1, 0, none⟩ i jj ∧ u = w1 ∧ (W.take i).all (fun p => inHeap p.Line lines) = true) W.length
    ⟨0, _, by omega, by omega, rfl, rfl, rfl⟩ ?_
  rintro m env u ⟨i, jj, rfl, hi, rfl, rfl, hok⟩
  have hrd := h.rd.new hn
  rw [bodegaref4_ValidRecord_loop1_body]
  refine ⟨_, _, _, hz1.cell (i := 1) rfl, bif_dec (fun hq => ⟨_, _, _, hz1.cell (i := 1) rfl, ?_⟩) (fun hq => ?_)⟩
  · have hlt : i < W.length := by omega
    have hg : W[i]? = some W[i] := List.getElem?_eq_getElem hlt
    refine rd_rec (cells := ApiPageR.cells) ApiPageR.len (by omega) hrd hg rfl hlen fun b o _ hc => ⟨_, hc 0 _ rfl, ?_⟩
    refine at_call (RInHeap_c _ _ _) ?_
    rintro x w3 ⟨rfl, rfl⟩
    refine ⟨_, rfl, bif_not (fun hf => ?_) (fun ht => ?_)⟩
    · rw [if_pos (by
        rw [List.all_eq_false]
        exact ⟨_, List.getElem_mem hlt, by rw [hf]; simp⟩)]
      exact ⟨rfl, hn⟩
    · rw [w64 (by omega) (by omega)]
      refine ⟨W.length - (i + 1), by omega, i + 1, _, rfl, by omega, rfl, rfl, ?_⟩
      rw [List.take_add_one, hg, List.all_append, hok]
      simp [ht]
  have ht : W.take i = W := List.take_of_length_le (by omega)
  rw [ht] at hok
  rw [if_neg (by rw [hok]; simp), bodegaref4_ValidRecord_aft1_vc]
  clear hok hi hq ht
  refine loop_rule mix (fun m env z => ∃ (i : Nat) (jj : List Value), m = W.length - i ∧ i ≤ W.length ∧ env = bodegaref4_ValidRecord_env2 ⟨b1, 0, none⟩ i jj ∧ New u z ∧ ∀ k, k < i → (ascP W k && headOk (W.getD k noP)) = true) W.length
    ⟨0, _, by omega, by omega, rfl, Keep.refl _ _, fun k hk => by omega⟩ ?_
  rintro m env z ⟨i, jj, rfl, hi, rfl, hnz, hok⟩
  have hn0z := hn.new hnz
  rw [bodegaref4_ValidRecord_loop2_body]
  refine ⟨_, _, _, (New.blk hnz hz1).cell (i := 1) rfl, bif_dec (fun hq => ⟨_, _, _, (New.blk hnz hz1).cell (i := 1) rfl, ?_⟩) (fun hq => ?_)⟩
  · have hlt : i < W.length := by omega
    have hg : W[i]? = some W[i] := List.getElem?_eq_getElem hlt
    have hgd := getD_of (d := noP) hg
    have hu : U64 W[i].Head := h.u64 _ (List.getElem_mem hlt)
    have bad : (ascP W i && headOk (W.getD i noP)) = false → (if ((List.range W.length).all fun i => ascP W i && headOk (W.getD i noP)) = false then 1 else (0 : Int)) = 1 := fun e => if_pos (all_false_of hlt e)
    refine rd_rec (cells := ApiPageR.cells) ApiPageR.len (by omega) (h.rd.new hn0z) hg rfl hlen fun b o _ hc => ⟨_, hc 1 _ rfl, ?_⟩
    refine at_call (RNext_c z hu) ?_
    rintro x z1 ⟨y, rfl, rfl⟩
    refine ⟨_, _, rfl, ?_⟩
    rintro z2 hz2
    have hn2 : New z1 z2 := by rw [hz2]; exact new_drew _
    clear hz2
    have hn02 := hn0z.new hn2
    have hz12 := New.blk (hnz.new hn2) hz1
    refine ⟨fun y => New z2 y, Keep.refl _ _, bif_dec (fun h0 => ⟨_, _, _, fun y hy => (New.blk hy hz12).cell (i := 1) rfl, ?_⟩) (fun h0 => ⟨_, _, _, fun y hy => (New.blk hy hz12).cell (i := 1) rfl, ?_⟩)⟩
    · have hg1 : W[i - 1]? = some W[i - 1] := List.getElem?_eq_getElem (by omega)
      have hgd1 := getD_of (d := noP) hg1
      refine rd_recS (cells := ApiPageR.cells) ApiPageR.len (by omega) (h.rd.new hn02) hg1 (by rw [w64 (by omega) (by omega)]; omega) hlen fun b' o' hc' => ⟨_, fun y hy => hc' y hy 0 _ rfl, _, _, _, fun y hy => (New.blk hy hz12).cell (i := 1) rfl, ?_⟩
      refine rd_recS (cells := ApiPageR.cells) ApiPageR.len (by omega) (h.rd.new hn02) hg rfl hlen fun b' o' hc' => ⟨_, fun y hy => hc' y hy 0 _ rfl, bif_dec (fun hp6 => ?_) (fun hp6 => ⟨_, _, _, fun y hy => (New.blk hy hz12).cell (i := 1) rfl, ?_⟩)⟩
      · rw [bad (by
          have : ascP W i = false := by unfold ascP; rw [hgd, hgd1]; simp; omega
          rw [this]; rfl)]
        exact ⟨rfl, hn02⟩
      have ha : ascP W i = true := by unfold ascP; rw [hgd, hgd1]; simp; omega
      refine rd_recS (cells := ApiPageR.cells) ApiPageR.len (by omega) (h.rd.new hn02) hg rfl hlen fun b' o' hc' => ⟨_, fun y hy => hc' y hy 1 _ rfl, ?_⟩
      refine at_call (RUnl_c z2 W[i].Head) ?_
      rintro x z3 ⟨rfl, rfl⟩
      refine ⟨_, rfl, Keep.refl _ _, bif_not (fun hf => ?_) (fun ht => bif_bne (fun hne => ?_) (fun he => ?_))⟩
      · rw [bad (by rw [hgd]; unfold headOk; rw [hf, Bool.and_false, Bool.and_false])]
        exact ⟨rfl, hn02⟩
      · rw [bad (by
          have : nextOk W[i].Head = false := by
            cases hx : nextOk W[i].Head with
            | true => rw [hx] at hne; simp at hne
            | false => rfl
          rw [hgd]; unfold headOk; rw [this, Bool.false_and, Bool.and_false])]
        exact ⟨rfl, hn02⟩
      · have hx : nextOk W[i].Head = true := by
          cases hx : nextOk W[i].Head with
          | true => rfl
          | false => rw [hx] at he; simp at he
        rw [w64 (by omega) (by omega)]
        refine ⟨W.length - (i + 1), by omega, i + 1, _, rfl, by omega, rfl, hnz.new hn2, fun k hk => ?_⟩
        rcases Nat.lt_succ_iff_lt_or_eq.1 hk with hk | rfl
        · exact hok k hk
        · rw [hgd]; unfold headOk; rw [ha, hx, ht]; rfl
    · have ha : ascP W i = true := by unfold ascP; simp; omega
      refine rd_recS (cells := ApiPageR.cells) ApiPageR.len (by omega) (h.rd.new hn02) hg rfl hlen fun b' o' hc' => ⟨_, fun y hy => hc' y hy 1 _ rfl, ?_⟩
      refine at_call (RUnl_c z2 W[i].Head) ?_
      rintro x z3 ⟨rfl, rfl⟩
      refine ⟨_, rfl, Keep.refl _ _, bif_not (fun hf => ?_) (fun ht => bif_bne (fun hne => ?_) (fun he => ?_))⟩
      · rw [bad (by rw [hgd]; unfold headOk; rw [hf, Bool.and_false, Bool.and_false])]
        exact ⟨rfl, hn02⟩
      · rw [bad (by
          have : nextOk W[i].Head = false := by
            cases hx : nextOk W[i].Head with
            | true => rw [hx] at hne; simp at hne
            | false => rfl
          rw [hgd]; unfold headOk; rw [this, Bool.false_and, Bool.and_false])]
        exact ⟨rfl, hn02⟩
      · have hx : nextOk W[i].Head = true := by
          cases hx : nextOk W[i].Head with
          | true => rfl
          | false => rw [hx] at he; simp at he
        rw [w64 (by omega) (by omega)]
        refine ⟨W.length - (i + 1), by omega, i + 1, _, rfl, by omega, rfl, hnz.new hn2, fun k hk => ?_⟩
        rcases Nat.lt_succ_iff_lt_or_eq.1 hk with hk | rfl
        · exact hok k hk
        · rw [hgd]; unfold headOk; rw [ha, hx, ht]; rfl
  · rw [bodegaref4_ValidRecord_aft2_vc, if_neg (by
      rw [Bool.not_eq_false, List.all_eq_true]
      intro k hk
      exact hok k (by have := List.mem_range.1 hk; omega))]
    exact ⟨rfl, hn0z⟩
end Go.Proofs.YtppcleiekdbndaaGreat
