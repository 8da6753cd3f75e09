/- commit.Valid and its reference. -/
import Derived.Test.YtjifihffjmbjfaaGreatCV2
set_option linter.unusedVariables false
namespace Go.Proofs.YtjifihffjmbjfaaGreat
open Go.Eng

def CJob.tail (j : CJob) : Int := if j.reads.all (fun s => inHeap s.Line j.lines) = false then 2 else if (List.range j.reads.length).all (seenOk j.reads j.writes) = false then 1 else 0

theorem seen_false {R : List ApiSeenR} {W : List ApiPageR} {i : Nat} (h : ascS R i = false ∨ unl (R.getD i noS).Head = false ∨ has W (R.getD i noS).Line = true) : seenOk R W i = false := by
  unfold seenOk
  rcases h with h | h | h
  · rw [h]; rfl
  · rw [h, Bool.and_false]; rfl
  · rw [h]; simp

set_option maxHeartbeats 1000000 in
theorem CVtail {w u : World} {r : CommitJobR} {j : CJob} {b1 : Nat} (h : CJobAt w r j) (hz : Blk u b1 r.cells 60) (hn : New w u) (jj : List Value) {R : Value → World → Prop} (hR : ∀ w', New w w' → R (.int .i64 j.tail) w') :
    codeW Tryz.prog (.loop (sub (bodyOf Tryz.f22) [1, 1, 1, 1, 1, 1, 0, 1, 0, 0])) (commit_Valid_env1 ⟨b1, 0, none⟩ r.Reads r.Reads_l r.Reads_c r.Reads_l 0 jj) (blockQ 0 (seqQ (fun env w => W Tryz.prog (sub (bodyOf Tryz.f22) [1, 1, 1, 1, 1, 1, 1]) env (retQ Tryz.prog Tryz.f22 R) w) (retQ Tryz.prog Tryz.f22 R))) u := by
  have hlen := h.len
  have hfew := h.few
  have hli := h.lines
  unfold CJob.tail at hR
  refine loop_rule mix (fun m env z => ∃ (i : Nat) (jj : List Value), m = j.reads.length - i ∧ i ≤ j.reads.length ∧ env = commit_Valid_env1 ⟨b1, 0, none⟩ r.Reads r.Reads_l r.Reads_c r.Reads_l i jj ∧ New u z ∧ (j.reads.take i).all (fun s => inHeap s.Line j.lines) = true) j.reads.length
    ⟨0, _, by omega, by omega, rfl, Keep.refl _ _, rfl⟩ ?_
  rintro m env z ⟨i, jj, rfl, hi, rfl, hnz, hok⟩
  have hn0z := hn.new hnz
  rw [commit_Valid_loop1_body]
  refine bif_dec (fun hq => ?_) (fun hq => ?_)
  · have hlt : i < j.reads.length := by omega
    have hg : j.reads[i]? = some j.reads[i] := List.getElem?_eq_getElem hlt
    refine rd_rec (cells := ApiSeenR.cells) ApiSeenR.len (by omega) (h.rd.new hn0z) hg rfl hlen fun b o hc _ => ApiSeenR.mk_ex j.reads[i] ⟨hc, ?_⟩
    refine box_k (vs := j.reads[i].cells) rfl (ApiSeenR.single _) fun b3 u2 hb3 hz3 hn3 => ?_
    refine ⟨_, hz3.cell (i := 0) rfl, _, (New.blk (hnz.new hn3) hz).cell (i := 2) rfl, ?_⟩
    refine at_call (InHeap_c _ _ _) ?_
    rintro x w3 ⟨rfl, rfl⟩
    refine ⟨_, rfl, bif_not (fun hf => ?_) (fun ht => ?_)⟩
    · rw [if_pos (by
        rw [List.all_eq_false]
        exact ⟨_, List.getElem_mem hlt, by rw [← hli, hf]; simp⟩)] at hR
      exact hR _ (hn0z.new hn3)
    · rw [w64 (by omega) (by omega)]
      refine ⟨j.reads.length - (i + 1), by omega, i + 1, _, rfl, by omega, rfl, hnz.new hn3, ?_⟩
      rw [List.take_add_one, hg, List.all_append, hok]
      simp [← hli, ht]
  have ht : j.reads.take i = j.reads := List.take_of_length_le (by omega)
  rw [ht] at hok
  rw [if_neg (by rw [hok]; simp)] at hR
  rw [commit_Valid_aft1_vc]
  clear hok hi hq ht
  have hzz := New.blk hnz hz
  refine ⟨_, _, _, hzz.cell (i := 5) rfl, ?_⟩
  refine loop_rule mix (fun m env x => ∃ (i : Nat) (jj : List Value), m = j.reads.length - i ∧ i ≤ j.reads.length ∧ env = commit_Valid_env2 ⟨b1, 0, none⟩ r.Reads r.Reads_l r.Reads_c r.Reads_l i jj ∧ New z x ∧ ∀ k, k < i → seenOk j.reads j.writes k = true) j.reads.length
    ⟨0, _, by omega, by omega, rfl, Keep.refl _ _, fun k hk => by omega⟩ ?_
  rintro m env x ⟨i, jj, rfl, hi, rfl, hnx, hok⟩
  have hn0x := hn0z.new hnx
  rw [commit_Valid_loop2_body]
  refine bif_dec (fun hq => ?_) (fun hq => ?_)
  · have hlt : i < j.reads.length := by omega
    have hg : j.reads[i]? = some j.reads[i] := List.getElem?_eq_getElem hlt
    have hgd := getD_of (d := noS) hg
    have bad : seenOk j.reads j.writes i = false → ∀ w', New w w' → R (.int .i64 1) w' := fun e w' hw => by
      rw [if_pos (all_false_of hlt e)] at hR
      exact hR w' hw
    refine rd_rec (cells := ApiSeenR.cells) ApiSeenR.len (by omega) (h.rd.new hn0x) hg rfl hlen fun b o hc _ => ApiSeenR.mk_ex j.reads[i] ⟨hc, ?_⟩
    refine box_k (vs := j.reads[i].cells) rfl (ApiSeenR.single _) fun b3 u2 hb3 hz3 hn3 => ?_
    rintro u3 hu3
    have hn4 : New u2 u3 := by rw [hu3]; exact new_drew _
    clear hu3
    have hn34 := hn3.new hn4
    have hz4 := New.blk hn4 hz3
    have hzx := New.blk (hnx.new hn34) hzz
    have hn04 := hn0x.new hn34
    refine ⟨fun y => New u3 y, Keep.refl _ _, bif_dec (fun h0 => ⟨_, fun y hy => (New.blk hy hz4).cell (i := 0) rfl, _, _, _, fun y hy => (New.blk hy hzx).cell (i := 5) rfl, ?_⟩) (fun h0 => ⟨_, fun y hy => (New.blk hy hz4).cell (i := 1) rfl, ?_⟩)⟩
    · have hg1 : j.reads[i - 1]? = some j.reads[i - 1] := List.getElem?_eq_getElem (by omega)
      have hgd1 := getD_of (d := noS) hg1
      refine rd_recS (cells := ApiSeenR.cells) ApiSeenR.len (by omega) (h.rd.new hn04) hg1 (by rw [w64 (by omega) (by omega)]; omega) hlen fun b' o' hc' => ⟨_, fun y hy => hc' y hy 0 _ rfl, bif_dec (fun hp6 => ?_) (fun hp6 => ⟨_, fun y hy => (New.blk hy hz4).cell (i := 1) rfl, ?_⟩)⟩
      · exact bad (seen_false (.inl (by unfold ascS; rw [hgd, hgd1]; simp; omega))) _ hn04
      have ha : ascS j.reads i = true := by unfold ascS; rw [hgd, hgd1]; simp; omega
      refine at_call (Unl_c u3 j.reads[i].Head) ?_
      rintro v u4 ⟨rfl, rfl⟩
      refine ⟨_, rfl, Keep.refl _ _, bif_not (fun hf => ?_) (fun htt => CommitJobR.mk_ex r ⟨fun y hy => cellsAt_blk (New.blk hy hzx) rfl, _, fun y hy => (New.blk hy hz4).cell (i := 0) rfl, ?_⟩)⟩
      · exact bad (seen_false (.inr (.inl (by rw [hgd]; exact hf)))) _ hn04
      refine at_call (JWrites_c (h.pg.new hn04) j.reads[i].Line) ?_
      rintro v u5 ⟨rfl, hn5⟩
      refine ⟨_, rfl, hn5, bif_b (fun hw => ?_) (fun hw => ?_)⟩
      · exact bad (seen_false (.inr (.inr (by rw [hgd]; exact hw)))) _ (hn04.new hn5)
      · rw [w64 (by omega) (by omega)]
        refine ⟨j.reads.length - (i + 1), by omega, i + 1, _, rfl, by omega, rfl, (hnx.new hn34).new hn5, fun k hk => ?_⟩
        rcases Nat.lt_succ_iff_lt_or_eq.1 hk with hk | rfl
        · exact hok k hk
        · unfold seenOk; rw [hgd, ha, htt, hw]; rfl
    · have ha : ascS j.reads i = true := by unfold ascS; simp; omega
      refine at_call (Unl_c u3 j.reads[i].Head) ?_
      rintro v u4 ⟨rfl, rfl⟩
      refine ⟨_, rfl, Keep.refl _ _, bif_not (fun hf => ?_) (fun htt => CommitJobR.mk_ex r ⟨fun y hy => cellsAt_blk (New.blk hy hzx) rfl, _, fun y hy => (New.blk hy hz4).cell (i := 0) rfl, ?_⟩)⟩
      · exact bad (seen_false (.inr (.inl (by rw [hgd]; exact hf)))) _ hn04
      refine at_call (JWrites_c (h.pg.new hn04) j.reads[i].Line) ?_
      rintro v u5 ⟨rfl, hn5⟩
      refine ⟨_, rfl, hn5, bif_b (fun hw => ?_) (fun hw => ?_)⟩
      · exact bad (seen_false (.inr (.inr (by rw [hgd]; exact hw)))) _ (hn04.new hn5)
      · rw [w64 (by omega) (by omega)]
        refine ⟨j.reads.length - (i + 1), by omega, i + 1, _, rfl, by omega, rfl, (hnx.new hn34).new hn5, fun k hk => ?_⟩
        rcases Nat.lt_succ_iff_lt_or_eq.1 hk with hk | rfl
        · exact hok k hk
        · unfold seenOk; rw [hgd, ha, htt, hw]; rfl
  · rw [commit_Valid_aft2_vc]
    rw [if_neg (by
      rw [Bool.not_eq_false, List.all_eq_true]
      intro k hk
      exact hok k (by have := List.mem_range.1 hk; omega))] at hR
    exact hR _ hn0x

set_option maxHeartbeats 1000000 in
theorem CValid_c {w : World} {r : CommitJobR} {j : CJob} (h : CJobAt w r j) : Does 22 [r.val] w fun x w' => x = .int .i64 j.valid ∧ New w w' := by
  refine does Tryz.func22 ?_
  rw [commit_Valid_vc]
  rintro b1 w1 hb1 hw1
  obtain ⟨hz, hn⟩ := box_new hb1 hw1
  have hz : Blk w1 b1 r.cells 60 := hz
  clear hw1
  have hlen := h.len
  have hfew := h.few
  have hcl := h.client
  have hsq := h.seq
  have hli := h.lines
  have hpl := h.pg.len
  obtain ⟨MM, hview⟩ := h.view
  unfold CJob.valid
  refine ⟨_, hz.cell (i := 0) rfl, bif_dec (fun hp => ?_) (fun hp => ⟨_, hz.cell (i := 0) rfl, bif_dec (fun hp1 => ?_) (fun hp1 => ?_)⟩)⟩
  · rw [if_pos (by omega)]; exact ⟨rfl, hn⟩
  · rw [if_pos (by omega)]; exact ⟨rfl, hn⟩
  rw [if_neg (by omega)]
  refine ApiViewR.mk_ex r.View ⟨cellsAt_blk hz rfl, ?_⟩
  refine at_call (VValid_c (hview.new hn) 5) ?_
  rintro x w2 ⟨rfl, hn2⟩
  have hz2 := New.blk hn2 hz
  have hn12 := hn.new hn2
  refine ⟨_, rfl, bif_bne (fun hv => ?_) (fun hv => ?_)⟩
  · rw [if_pos hv]; exact ⟨rfl, hn12⟩
  rw [if_neg (by omega)]
  refine ⟨_, hz2.cell (i := 2) rfl, bif_dec (fun hp2 => ?_) (fun hp2 => ⟨_, hz2.cell (i := 2) rfl, bif_dec (fun hp3 => ?_) (fun hp3 => ⟨_, _, _, hz2.cell (i := 6) rfl, bif_dec (fun hp4 => ?_) (fun hp4 => ⟨_, _, _, hz2.cell (i := 5) rfl, bif_dec (fun hp5 => ?_) (fun hp5 => ⟨_, _, _, hz2.cell (i := 5) rfl, ?_⟩)⟩)⟩)⟩)⟩
  · rw [if_pos (by omega)]; exact ⟨rfl, hn12⟩
  · rw [if_pos (by omega)]; exact ⟨rfl, hn12⟩
  · rw [if_neg (by omega)]
    rintro w3 hw3
    have hn3 : New w2 w3 := by rw [hw3]; exact new_drew _
    clear hw3
    have hz3 := New.blk hn3 hz2
    refine ⟨fun y => New w3 y, Keep.refl _ _, CommitJobR.mk_ex r ⟨fun y hy => cellsAt_blk (New.blk hy hz3) rfl, _, fun y hy => (New.blk hy hz3).cell (i := 2) rfl, ?_⟩⟩
    refine at_call (Record_c w3 r) ?_
    rintro x w4 ⟨rfl, hn4⟩
    refine LogrecRecordR.mk_ex ⟨r.Seq, r.Writes, r.Writes_l, r.Writes_c⟩ ⟨rfl, hn4, ?_⟩
    refine at_call (LValid_c (r := ⟨r.Seq, r.Writes, r.Writes_l, r.Writes_c⟩) (h.pg.new (hn12.new (hn3.new hn4))) r.Lines) ?_
    rintro x u ⟨rfl, hn5⟩
    have hnu := hn12.new (hn3.new (hn4.new hn5))
    have hzu := New.blk (hn4.new hn5) hz3
    rw [← hsq, ← hli]
    refine ⟨_, rfl, hn4.new hn5, bif_bne (fun hr => ?_) (fun hr => ⟨_, _, _, hzu.cell (i := 5) rfl, bif_dec (fun hp5 => ?_) (fun hp5 => ⟨_, _, _, hzu.cell (i := 5) rfl, ?_⟩)⟩)⟩
    · rw [if_pos ⟨by omega, hr⟩]
      exact ⟨rfl, hnu⟩
    · rw [if_neg (fun e => e.2 hr), if_pos (by omega)]
      exact ⟨rfl, hnu⟩
    · rw [if_neg (fun e => e.2 hr), if_neg (by omega), hli]
      exact CVtail h hzu hnu _ fun w' hw => ⟨rfl, hw⟩
  · rw [if_neg (by omega), if_neg (by omega), if_pos (by omega)]; exact ⟨rfl, hn12⟩
  · rw [if_neg (by omega), if_neg (by omega), if_neg (by omega)]
    exact CVtail h hz2 hn12 _ fun w' hw => ⟨rfl, hw⟩

set_option maxHeartbeats 1000000 in
theorem RCtail {w u : World} {r : CommitJobR} {j : CJob} {b1 : Nat} (h : CJobAt w r j) (hz : Blk u b1 (refJob r).cells 66) (hn : New w u) (jj : List Value) {R : Value → World → Prop} (hR : ∀ w', New w w' → R (.int .i64 j.tail) w') :
    codeW Tryz.prog (.loop (sub (bodyOf Tryz.f23) [1, 1, 1, 1, 1, 1, 0, 1, 0, 0])) (bodegaref9_ValidCommit_env1 ⟨b1, 0, none⟩ 0 jj) (blockQ 0 (seqQ (fun env w => W Tryz.prog (sub (bodyOf Tryz.f23) [1, 1, 1, 1, 1, 1, 1]) env (retQ Tryz.prog Tryz.f23 R) w) (retQ Tryz.prog Tryz.f23 R))) u := by
  have hlen := h.len
  have hfew := h.few
  have hli := h.lines
  have hpl := h.pg.len
  have hpf := h.pg.few
  unfold CJob.tail at hR
  refine loop_rule mix (fun m env z => ∃ (i : Nat) (jj : List Value), m = j.reads.length - i ∧ i ≤ j.reads.length ∧ env = bodegaref9_ValidCommit_env1 ⟨b1, 0, none⟩ i jj ∧ New u z ∧ (j.reads.take i).all (fun s => inHeap s.Line j.lines) = true) j.reads.length
    ⟨0, _, by omega, by omega, rfl, Keep.refl _ _, rfl⟩ ?_
  rintro m env z ⟨i, jj, rfl, hi, rfl, hnz, hok⟩
  have hn0z := hn.new hnz
  have hzz := New.blk hnz hz
  rw [bodegaref9_ValidCommit_loop1_body]
  refine ⟨_, _, _, hzz.cell (i := 5) rfl, bif_dec (fun hq => ?_) (fun hq => ?_)⟩
  · have hlt : i < j.reads.length := by have : (i : Int) < r.Reads_l := hq; omega
    have hg : j.reads[i]? = some j.reads[i] := List.getElem?_eq_getElem hlt
    rintro z1 hz1
    have hn1 : New z z1 := by rw [hz1]; exact new_drew _
    clear hz1
    have hz1 := New.blk hn1 hzz
    refine ⟨fun y => New z1 y, Keep.refl _ _, _, _, _, fun y hy => (New.blk hy hz1).cell (i := 5) rfl, ?_⟩
    refine rd_recS (cells := ApiSeenR.cells) ApiSeenR.len (by omega) (h.rd.new (hn0z.new hn1)) hg rfl hlen fun b o hc => ⟨_, fun y hy => hc y hy 0 _ rfl, _, fun y hy => (New.blk hy hz1).cell (i := 2) rfl, ?_⟩
    refine at_call (RInHeap_c _ _ _) ?_
    rintro x w3 ⟨rfl, rfl⟩
    refine ⟨_, rfl, Keep.refl _ _, bif_not (fun hf => ?_) (fun ht => ?_)⟩
    · rw [if_pos (by
        rw [List.all_eq_false]
        refine ⟨_, List.getElem_mem hlt, ?_⟩
        have hf : inHeap j.reads[i].Line r.Lines = false := hf
        rw [← hli, hf]; simp)] at hR
      exact hR _ (hn0z.new hn1)
    · rw [w64 (by omega) (by omega)]
      refine ⟨j.reads.length - (i + 1), by omega, i + 1, _, rfl, by omega, rfl, hnz.new hn1, ?_⟩
      have ht : inHeap j.reads[i].Line r.Lines = true := ht
      rw [List.take_add_one, hg, List.all_append, hok]
      simp [← hli, ht]
  have hq : ¬ (i : Int) < r.Reads_l := hq
  have ht : j.reads.take i = j.reads := List.take_of_length_le (by omega)
  rw [ht] at hok
  rw [if_neg (by rw [hok]; simp)] at hR
  rw [bodegaref9_ValidCommit_aft1_vc]
  clear hok hi hq ht
  refine loop_rule mix (fun m env x => ∃ (i : Nat) (jj : List Value), m = j.reads.length - i ∧ i ≤ j.reads.length ∧ env = bodegaref9_ValidCommit_env2 ⟨b1, 0, none⟩ i jj ∧ New z x ∧ ∀ k, k < i → seenOk j.reads j.writes k = true) j.reads.length
    ⟨0, _, by omega, by omega, rfl, Keep.refl _ _, fun k hk => by omega⟩ ?_
  rintro m env x ⟨i, jj, rfl, hi, rfl, hnx, hok⟩
  have hn0x := hn0z.new hnx
  rw [bodegaref9_ValidCommit_loop2_body]
  refine ⟨_, _, _, (New.blk hnx hzz).cell (i := 5) rfl, bif_dec (fun hq => ?_) (fun hq => ?_)⟩
  · have hlt : i < j.reads.length := by have : (i : Int) < r.Reads_l := hq; omega
    have hg : j.reads[i]? = some j.reads[i] := List.getElem?_eq_getElem hlt
    have hgd := getD_of (d := noS) hg
    have bad : seenOk j.reads j.writes i = false → ∀ w', New w w' → R (.int .i64 1) w' := fun e w' hw => by
      rw [if_pos (all_false_of hlt e)] at hR
      exact hR w' hw
    rintro u3 hu3
    have hn4 : New x u3 := by rw [hu3]; exact new_drew _
    clear hu3
    have hzx := New.blk (hnx.new hn4) hzz
    have hn04 := hn0x.new hn4
    refine ⟨fun y => New u3 y, Keep.refl _ _, bif_dec (fun h0 => ⟨_, _, _, fun y hy => (New.blk hy hzx).cell (i := 5) rfl, ?g1⟩) (fun h0 => ⟨_, _, _, fun y hy => (New.blk hy hzx).cell (i := 5) rfl, ?g2⟩)⟩
    case' g1 =>
      have hg1 : j.reads[i - 1]? = some j.reads[i - 1] := List.getElem?_eq_getElem (by omega)
      have hgd1 := getD_of (d := noS) hg1
      refine rd_recS (cells := ApiSeenR.cells) ApiSeenR.len (by omega) (h.rd.new hn04) hg1 (by rw [w64 (by omega) (by omega)]; omega) hlen fun b' o' hc' => ⟨_, fun y hy => hc' y hy 0 _ rfl, _, _, _, fun y hy => (New.blk hy hzx).cell (i := 5) rfl, ?_⟩
      refine rd_recS (cells := ApiSeenR.cells) ApiSeenR.len (by omega) (h.rd.new hn04) hg rfl hlen fun b' o' hc' => ⟨_, fun y hy => hc' y hy 0 _ rfl, bif_dec (fun hp6 => bad (seen_false (.inl (by unfold ascS; rw [hgd, hgd1]; simp; omega))) _ hn04) (fun hp6 => ⟨_, _, _, fun y hy => (New.blk hy hzx).cell (i := 5) rfl, ?_⟩)⟩
      have ha : ascS j.reads i = true := by unfold ascS; rw [hgd, hgd1]; simp; omega
    case' g2 =>
      have ha : ascS j.reads i = true := by unfold ascS; simp; omega
    all_goals
      refine rd_recS (cells := ApiSeenR.cells) ApiSeenR.len (by omega) (h.rd.new hn04) hg rfl hlen fun b' o' hc' => ⟨_, fun y hy => hc' y hy 1 _ rfl, ?_⟩
      refine at_call (RUnl_c u3 j.reads[i].Head) ?_
      rintro v u4 ⟨rfl, rfl⟩
      refine ⟨_, rfl, Keep.refl _ _, bif_not (fun hf => bad (seen_false (.inr (.inl (by rw [hgd]; exact hf)))) _ hn04) (fun htt => ?_)⟩
      refine loop_rule mix (fun m env y => ∃ (q : Nat) (jj : List Value), m = j.writes.length - q ∧ q ≤ j.writes.length ∧ env = bodegaref9_ValidCommit_env3 ⟨b1, 0, none⟩ i q jj ∧ New u4 y ∧ has (j.writes.take q) j.reads[i].Line = false) j.writes.length
        ⟨0, _, by omega, by omega, rfl, Keep.refl _ _, rfl⟩ ?_
      rintro m env y ⟨q, jj, rfl, hqi, rfl, hny, hno⟩
      have hzy := New.blk hny hzx
      have hn0y := hn04.new hny
      rw [bodegaref9_ValidCommit_loop3_body]
      refine ⟨_, _, _, hzy.cell (i := 6) rfl, bif_dec (fun hqq => ?_) (fun hqq => ?_)⟩
      · have hqlt : q < j.writes.length := by have : (q : Int) < r.Writes_l := hqq; omega
        have hgw : j.writes[q]? = some j.writes[q] := List.getElem?_eq_getElem hqlt
        rintro y1 hy1
        have hn5 : New y y1 := by rw [hy1]; exact new_drew _
        clear hy1
        have hz5 := New.blk hn5 hzy
        have hn05 := hn0y.new hn5
        refine ⟨fun x => New y1 x, Keep.refl _ _, _, _, _, fun x hx => (New.blk hx hz5).cell (i := 6) rfl, ?_⟩
        refine rd_recS (cells := ApiPageR.cells) ApiPageR.len (by omega) (h.pg.rd.new hn05) hgw rfl hpl fun b' o' hc' => ⟨_, fun y hy => hc' y hy 0 _ rfl, _, _, _, fun x hx => (New.blk hx hz5).cell (i := 5) rfl, ?_⟩
        refine rd_recS (cells := ApiSeenR.cells) ApiSeenR.len (by omega) (h.rd.new hn05) hg rfl hlen fun b' o' hc' => ⟨_, fun y hy => hc' y hy 0 _ rfl, bif_beq (fun he => ?_) (fun he => ?_)⟩
        · exact bad (seen_false (.inr (.inr (by rw [hgd]; exact List.any_eq_true.2 ⟨_, List.getElem_mem hqlt, by simpa using he⟩)))) _ hn05
        · rw [w64 (by omega) (by omega)]
          refine ⟨j.writes.length - (q + 1), by omega, q + 1, _, rfl, by omega, rfl, hny.new hn5, ?_⟩
          have hno' := hno
          unfold has at hno' ⊢
          rw [List.take_add_one, hgw, List.any_append, hno']
          simpa using he
      · have hqq : ¬ (q : Int) < r.Writes_l := hqq
        have ht : j.writes.take q = j.writes := List.take_of_length_le (by omega)
        rw [ht] at hno
        rw [bodegaref9_ValidCommit_aft3_vc]
        rw [w64 (by omega) (by omega)]
        refine ⟨j.reads.length - (i + 1), by omega, i + 1, _, rfl, by omega, rfl, (hnx.new hn4).new hny, fun k hk => ?_⟩
        rcases Nat.lt_succ_iff_lt_or_eq.1 hk with hk | rfl
        · exact hok k hk
        · unfold seenOk; rw [hgd, ha, htt, hno]; rfl
  · have hq : ¬ (i : Int) < r.Reads_l := hq
    rw [bodegaref9_ValidCommit_aft2_vc]
    rw [if_neg (by
      rw [Bool.not_eq_false, List.all_eq_true]
      intro k hk
      exact hok k (by have := List.mem_range.1 hk; omega))] at hR
    exact hR _ hn0x

set_option maxHeartbeats 1000000 in
theorem RCommit_c {w : World} {r : CommitJobR} {j : CJob} (h : CJobAt w r j) : Does 23 [(refJob r).val] w fun x w' => x = .int .i64 j.valid ∧ New w w' := by
  refine does Tryz.func23 ?_
  rw [bodegaref9_ValidCommit_vc]
  rintro b1 w1 hb1 hw1
  obtain ⟨hz, hn⟩ := box_new hb1 hw1
  have hz : Blk w1 b1 (refJob r).cells 66 := hz
  clear hw1
  have hlen := h.len
  have hfew := h.few
  have hcl := h.client
  have hsq := h.seq
  have hli := h.lines
  have hpl := h.pg.len
  obtain ⟨MM, hview⟩ := h.view
  unfold CJob.valid
  refine ⟨_, hz.cell (i := 0) rfl, ?_⟩
  refine at_call (RClient_c w1 r.Client) ?_
  rintro x w1' ⟨rfl, rfl⟩
  refine ⟨_, rfl, bif_not (fun hf => ?_) (fun ht => ?_)⟩
  · have : ¬ (0 ≤ r.Client ∧ r.Client < 6) := by simpa using hf
    rw [if_pos (by omega)]; exact ⟨rfl, hn⟩
  have hcc : 0 ≤ r.Client ∧ r.Client < 6 := by simpa using ht
  rw [if_neg (by omega)]
  refine ApiViewR.mk_ex r.View ⟨cellsAt_blk hz rfl, ?_⟩
  refine at_call (RValid_c (hview.new hn) 5) ?_
  rintro x w2 ⟨rfl, hn2⟩
  have hz2 := New.blk hn2 hz
  have hn12 := hn.new hn2
  refine ⟨_, rfl, bif_bne (fun hv => ?_) (fun hv => ?_)⟩
  · rw [if_pos hv]; exact ⟨rfl, hn12⟩
  rw [if_neg (by omega)]
  refine ⟨_, hz2.cell (i := 2) rfl, bif_dec (fun hp2 => ?_) (fun hp2 => ⟨_, hz2.cell (i := 2) rfl, bif_dec (fun hp3 => ?_) (fun hp3 => ⟨_, hz2.cell (i := 1) rfl, _, _, _, hz2.cell (i := 6) rfl, _, hz2.cell (i := 2) rfl, ?_⟩)⟩)⟩
  · have hp2 : r.Lines < 98 := hp2
    rw [if_pos (by omega)]; exact ⟨rfl, hn12⟩
  · have hp3 : r.Lines > 256 := hp3
    rw [if_pos (by omega)]; exact ⟨rfl, hn12⟩
  have hp2 : ¬ r.Lines < 98 := hp2
  have hp3 : ¬ r.Lines > 256 := hp3
  rw [if_neg (by omega)]
  refine at_call (RRecord_c (r := ⟨r.Seq, r.Writes, r.Writes_l, r.Writes_c⟩) (h.pg.new hn12) r.Lines) ?_
  rintro x u ⟨rfl, hn3⟩
  have hnu := hn12.new hn3
  have hzu := New.blk hn3 hz2
  rw [← hsq, ← hli]
  refine ⟨_, rfl, _, _, _, hzu.cell (i := 6) rfl, bif_dec (fun hp4 => bif_bne (fun hr => ?_) (fun hr => ⟨_, _, _, hzu.cell (i := 5) rfl, bif_dec (fun hp5 => ?_) (fun hp5 => ?_)⟩)) (fun hp4 => ⟨_, _, _, hzu.cell (i := 5) rfl, bif_dec (fun hp5 => ?_) (fun hp5 => ?_)⟩)⟩
  · have hp4 : (r.Writes_l : Int) > 0 := hp4
    rw [if_pos ⟨by omega, hr⟩]
    exact ⟨rfl, hnu⟩
  · have hp5 : (r.Reads_l : Int) > 24 := hp5
    rw [if_neg (fun e => e.2 hr), if_pos (by omega)]
    exact ⟨rfl, hnu⟩
  · have hp5 : ¬ (r.Reads_l : Int) > 24 := hp5
    rw [if_neg (fun e => e.2 hr), if_neg (by omega), hli]
    exact RCtail h hzu hnu _ fun w' hw => ⟨rfl, hw⟩
  · have hp4 : ¬ (r.Writes_l : Int) > 0 := hp4
    have hp5 : (r.Reads_l : Int) > 24 := hp5
    rw [if_neg (by omega), if_pos (by omega)]
    exact ⟨rfl, hnu⟩
  · have hp4 : ¬ (r.Writes_l : Int) > 0 := hp4
    have hp5 : ¬ (r.Reads_l : Int) > 24 := hp5
    rw [if_neg (by omega), if_neg (by omega), hli]
    exact RCtail h hzu hnu _ fun w' hw => ⟨rfl, hw⟩
end Go.Proofs.YtjifihffjmbjfaaGreat
