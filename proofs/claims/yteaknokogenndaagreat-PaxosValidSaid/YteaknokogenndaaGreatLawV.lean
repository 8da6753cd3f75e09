/- The law PaxosValid: it returns true at every input. -/
import Derived.Test.YteaknokogenndaaGreatAlone
set_option linter.unusedVariables false
namespace Go.Proofs.YteaknokogenndaaGreat
open Go.Eng

theorem RClient_c (w : World) (c : Int) : Does 46 [.int .i64 c] w fun v w' => v = .bool (decide (0 ≤ c ∧ c ≤ 5)) ∧ w' = w := by
  refine does Tryz.func46 ?_
  rw [bodegaref1_Client_vc]
  refine bif_dec (fun h => ⟨?_, rfl⟩) (fun h => ⟨?_, rfl⟩)
  · congr 1
    have : (0 ≤ c ∧ c ≤ 5) ↔ c < 6 := by omega
    simp only [this]
  · have : ¬ (0 ≤ c ∧ c ≤ 5) := by omega
    simp [this]

theorem RBallot_c (w : World) (r c : Int) : Does 29 [.int .i64 r, .int .i64 c] w fun v w' => v = .tuple #[.int .u64 (if 1 ≤ r ∧ r ≤ 500 ∧ 0 ≤ c ∧ c ≤ 5 then ballot r c else 0), .int .i64 (if 1 ≤ r ∧ r ≤ 500 then if 0 ≤ c ∧ c ≤ 5 then 0 else 1 else 2)] ∧ w' = w := by
  refine does Tryz.func29 ?_
  rw [bodegaref1_Ballot_vc]
  refine bif_dec (fun h => ⟨?_, rfl⟩) (fun h => bif_dec (fun h2 => ⟨?_, rfl⟩) (fun h2 => ?_))
  · rw [if_neg (by omega), if_neg (by omega)]
  · rw [if_neg (by omega), if_neg (by omega)]
  refine at_call (RClient_c _ _) ?_
  rintro v w1 ⟨rfl, rfl⟩
  refine ⟨_, rfl, ?_⟩
  have h1 : 1 ≤ r ∧ r ≤ 500 := by omega
  by_cases h2 : 0 ≤ c ∧ c ≤ 5
  · refine bif_f (by simp [h2]) ⟨?_, rfl⟩
    rw [if_pos h1, if_pos h2, if_pos ⟨h1.1, h1.2, h2⟩, w64 (x := r * 8) (by omega) (by omega), w64 (x := r * 8 + c) (by omega) (by omega), w64 (x := r * 8 + c + 1) (by omega) (by omega), wrapu (by omega) (by omega)]
    rfl
  · refine bif_t (by simp [h2]) ⟨?_, rfl⟩
    rw [if_pos h1, if_neg h2, if_neg (fun h => h2 h.2.2)]

theorem RValid_c (w : World) (j : Job) : Does 10 [j.val] w fun v w' => v = .int .i64 j.valid ∧ New w w' := by
  refine does Tryz.func10 ?_
  refine Eq.mpr (bodegaref9_ValidPaxos_vc j.nodes j.number j.client j.round j.value w _) ?_
  rintro b1 w1 hb1 hw1
  obtain ⟨hz, hn⟩ := box_new hb1 hw1
  unfold Job.valid
  refine ⟨_, hz.cell rfl, bif_dec (fun h => ⟨by rw [if_pos (by omega)], hn⟩) (fun h1 => ⟨_, hz.cell rfl, bif_dec (fun h => ⟨by rw [if_pos (by omega)], hn⟩) (fun h2 => ⟨_, hz.cell rfl, bif_dec (fun h => ⟨by rw [if_neg (by omega), if_pos (by omega)], hn⟩) (fun h3 => ⟨_, hz.cell rfl, bif_dec (fun h => ⟨by rw [if_neg (by omega), if_pos (by omega)], hn⟩) (fun h4 => ⟨_, hz.cell rfl, _, hz.cell rfl, ?_⟩)⟩)⟩)⟩)⟩
  refine at_call (RBallot_c _ _ _) ?_
  rintro v w2 ⟨rfl, rfl⟩
  refine ⟨_, _, rfl, ?_⟩
  rw [if_neg (by omega : ¬ (j.nodes < 1 ∨ 5 < j.nodes)), if_neg (by omega : ¬ (j.number < 0 ∨ 16 ≤ j.number))]
  by_cases hr : 1 ≤ j.round ∧ j.round ≤ 500
  · rw [if_neg (show ¬ ¬ (1 ≤ j.round ∧ j.round ≤ 500) from fun h => h hr), if_pos hr]
    by_cases hc : 0 ≤ j.client ∧ j.client ≤ 5
    · rw [if_neg (show ¬ ¬ (0 ≤ j.client ∧ j.client ≤ 5) from fun h => h hc), if_pos hc]
      refine bif_f rfl ⟨_, hz.cell rfl, bif_beq (fun h => ⟨by rw [if_pos (.inl h)], hn⟩) (fun h => ⟨_, hz.cell rfl, bif_dec (fun h => ⟨by rw [if_pos (.inr h)], hn⟩) (fun h => ⟨by rw [if_neg (by omega)], hn⟩)⟩)⟩
    · rw [if_pos (show ¬ (0 ≤ j.client ∧ j.client ≤ 5) from hc), if_neg hc]
      exact bif_t rfl ⟨rfl, hn⟩
  · rw [if_pos (show ¬ (1 ≤ j.round ∧ j.round ≤ 500) from hr), if_neg hr]
    exact bif_t rfl ⟨rfl, hn⟩

theorem Job.single (j : Job) : ∀ u ∈ j.cells, single u = true := by
  intro u hu
  simp only [Job.cells, List.mem_cons, List.not_mem_nil, or_false] at hu
  rcases hu with rfl | rfl | rfl | rfl | rfl <;> rfl

theorem own_c (w : World) (j : Job) : Does 11 [j.val] w fun v w' => v = j.val ∧ New w w' := by
  refine does Tryz.func11 ?_
  refine Eq.mpr (bodegalaw9_own_vc j.nodes j.number j.client j.round j.value w _) ?_
  rintro b1 w1 hb1 hw1 b2 w2 hb2 hw2
  obtain ⟨hz1, hn1⟩ := box_new hb1 hw1
  obtain ⟨hz2, hn2⟩ := box_new hb2 hw2
  have hz := New.blk hn2 hz1
  have hs := hn1.size
  refine ⟨_, hz.cell (i := 0) rfl, _, hz.cell (i := 1) rfl, _, hz.cell (i := 2) rfl, _, hz.cell (i := 3) rfl, _, hz.cell (i := 4) rfl, ?_⟩
  refine put_k (vs := j.cells) hz2 rfl (Job.single _) fun w3 hb3 hk3 => ?_
  refine ⟨j.nodes, j.number, j.client, j.round, j.value, cellsAt_blk hb3 rfl, rfl, rfl, (hn1.new hn2).trans hk3 fun k hlt e => by omega⟩

structure Job.Ok (j : Job) : Prop where
  nodes : I64 j.nodes
  number : I64 j.number
  client : I64 j.client
  round : I64 j.round

theorem near_c (w : World) {j : Job} (hj : j.Ok) : Does 7 [j.val] w fun v w' => ∃ k : Job, v = k.val ∧ New w w' := by
  refine does Tryz.func7 ?_
  refine Eq.mpr (bodegalaw9_near_vc j.nodes j.number j.client j.round j.value w _) ?_
  rintro b1 w1 hb1 hw1 b2 w2 hb2 hw2
  obtain ⟨hz1, hn1⟩ := box_new hb1 hw1
  obtain ⟨hz2, hn2⟩ := box_new hb2 hw2
  have hz := New.blk hn2 hz1
  have hs := hn1.size
  rintro w3 hw3
  have hn3 : New w2 w3 := by rw [hw3]; exact new_drew _
  refine ⟨fun z => New w2 z, hn3, _, fun z hz' => (New.blk hz' hz).cell (i := 0) rfl, _, fun z hz' => (New.blk hz' hz).cell (i := 1) rfl, _, fun z hz' => (New.blk hz' hz).cell (i := 2) rfl, _, fun z hz' => (New.blk hz' hz).cell (i := 3) rfl, _, fun z hz' => (New.blk hz' hz).cell (i := 4) rfl, ?_⟩
  refine at_call (Pick_c _ _ _ hj.nodes (by omega)) ?_
  rintro v w4 ⟨rfl, rfl⟩
  refine ⟨_, rfl, hn3, ?_⟩
  refine at_call (Pick_c _ _ _ hj.number (by omega)) ?_
  rintro v w4 ⟨rfl, rfl⟩
  refine ⟨_, rfl, hn3, ?_⟩
  refine at_call (Pick_c _ _ _ hj.client (by omega)) ?_
  rintro v w4 ⟨rfl, rfl⟩
  refine ⟨_, rfl, hn3, ?_⟩
  refine at_call (Pick_c _ _ _ hj.round (by omega)) ?_
  rintro v w4 ⟨rfl, rfl⟩
  refine ⟨_, rfl, hn3, ?_⟩
  refine put_k (New.blk hn3 hz2) rfl (by intro u hu; simp only [List.mem_cons, List.not_mem_nil, or_false] at hu; rcases hu with rfl | rfl | rfl | rfl | rfl <;> rfl) fun w5 hb5 hk5 => ?_
  exact ⟨_, _, _, _, _, cellsAt_blk hb5 rfl, rfl, ⟨_, _, _, _, _⟩, rfl, ((hn1.new hn2).new hn3).trans hk5 fun k hlt e => by omega⟩

def majx (n : Int) : Int := if n < 1 then 0 else IntKind.i64.wrap (IntKind.i64.wrap (Int.tdiv n 2) + 1)

theorem Majx_c (w : World) (n : Int) : Does 12 [.int .i64 n] w fun v w' => v = .int .i64 (majx n) ∧ w' = w := by
  refine does Tryz.func12 ?_
  rw [paxos_Majority_vc]
  unfold majx
  exact bif_dec (fun h => ⟨by rw [if_pos h], rfl⟩) (fun h => ⟨by rw [if_neg h], rfl⟩)

theorem RMajx_c (w : World) (n : Int) : Does 13 [.int .i64 n] w fun v w' => v = .int .i64 (majx n) ∧ w' = w := by
  refine does Tryz.func13 ?_
  rw [bodegaref9_Majority_vc]
  unfold majx
  exact bif_dec (fun h => ⟨by rw [if_pos h], rfl⟩) (fun h => ⟨by rw [if_neg h], rfl⟩)

/-- The law returns true. -/
theorem PaxosValid_c (w : World) {j : Job} (hj : j.Ok) (n : Int) : Does 3 [j.val, .int .i64 n] w fun v w' => v = .bool true ∧ New w w' := by
  refine does Tryz.func3 ?_
  refine Eq.mpr (bodegalaw9_PaxosValid_vc j.nodes j.number j.client j.round j.value n w _) ?_
  rintro b1 w1 hb1 hw1
  obtain ⟨hz1, hn1⟩ := box_new hb1 hw1
  refine ⟨j.nodes, j.number, j.client, j.round, j.value, cellsAt_blk hz1 rfl, ?_⟩
  refine at_call (near_c _ hj) ?_
  rintro v w2 ⟨k, rfl, hn2⟩
  refine ⟨k.nodes, k.number, k.client, k.round, k.value, rfl, ?_⟩
  refine box_k (vs := k.cells) rfl (Job.single _) fun b2 w4 hb2 hz4 hn4 => ?_
  rintro w5 hw5
  have hn5 : New w4 w5 := by rw [hw5]; exact new_drew _
  clear hw5
  have hzk := New.blk hn5 hz4
  have hzj := New.blk ((hn2.new hn4).new hn5) hz1
  have hn05 : New w w5 := ((hn1.new hn2).new hn4).new hn5
  refine ⟨fun z => New w5 z, Keep.refl _ _, ?_⟩
  refine at_call (awake_c _) ?_
  rintro v w6 ⟨rfl, hn6⟩
  refine ⟨_, rfl, hn6, bif_t rfl ?_⟩
  refine ⟨j.nodes, j.number, j.client, j.round, j.value, fun z hz => cellsAt_blk (New.blk hz hzj) rfl, j.nodes, j.number, j.client, j.round, j.value, fun z hz => cellsAt_blk (New.blk hz hzj) rfl, ?_⟩
  refine at_call (PValid_c _ j) ?_
  rintro v w7 ⟨rfl, hn7⟩
  refine ⟨_, rfl, hn6.new hn7, ?_⟩
  refine at_call (own_c _ j) ?_
  rintro v w8 ⟨rfl, hn8⟩
  refine ⟨j.nodes, j.number, j.client, j.round, j.value, rfl, (hn6.new hn7).new hn8, ?_⟩
  refine at_call (RValid_c _ j) ?_
  rintro v w9 ⟨rfl, hn9⟩
  have hn59 := ((hn6.new hn7).new hn8).new hn9
  refine ⟨_, rfl, hn59, bif_t (by simp) ?_⟩
  refine ⟨k.nodes, k.number, k.client, k.round, k.value, fun z hz => cellsAt_blk (New.blk hz hzk) rfl, k.nodes, k.number, k.client, k.round, k.value, fun z hz => cellsAt_blk (New.blk hz hzk) rfl, ?_⟩
  refine at_call (PValid_c _ k) ?_
  rintro v w10 ⟨rfl, hn10⟩
  refine ⟨_, rfl, hn59.new hn10, ?_⟩
  refine at_call (own_c _ k) ?_
  rintro v w11 ⟨rfl, hn11⟩
  refine ⟨k.nodes, k.number, k.client, k.round, k.value, rfl, (hn59.new hn10).new hn11, ?_⟩
  refine at_call (RValid_c _ k) ?_
  rintro v w12 ⟨rfl, hn12⟩
  have hn512 := ((hn59.new hn10).new hn11).new hn12
  refine ⟨_, rfl, hn512, bif_t (by simp) ?_⟩
  refine at_call (Majx_c _ n) ?_
  rintro v w13 ⟨rfl, rfl⟩
  refine ⟨_, rfl, hn512, ?_⟩
  refine at_call (RMajx_c _ n) ?_
  rintro v w13 ⟨rfl, rfl⟩
  exact ⟨_, rfl, hn512, by simp, hn05.new hn512⟩
end Go.Proofs.YteaknokogenndaaGreat
