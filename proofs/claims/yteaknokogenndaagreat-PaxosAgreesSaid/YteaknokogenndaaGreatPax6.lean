/- Package paxos: the next batch of a proposal, or its outcome. -/
import Derived.Test.YteaknokogenndaaGreatPax5
set_option linter.unusedVariables false
namespace Go.Proofs.YteaknokogenndaaGreat
open Go.Eng

theorem TNew_c (w : World) (ga : Option Addr) (gl gc : Nat) : Does 88 [.slice ga gl gc] w fun v w' => ∃ tb, v = ptr tb ∧ w.heap.size ≤ tb ∧ Blk w' tb (TkX.cells ⟨ga, gl, gc, none, 0, 0, false⟩) TTk ∧ New w w' := by
  refine does Tryz.func88 ?_
  rw [talk_New_vc]
  rintro b1 w1 hb1 hw1
  obtain ⟨hz, hn⟩ := box_new hb1 hw1
  exact ⟨b1, rfl, by omega, hz, hn⟩

theorem Asking_c {w : World} {tb : Nat} {T : TkX} (h : Blk w tb T.cells TTk) : Does 90 [ptr tb] w fun v w' => v = .tuple #[.slice T.aa T.al T.ac, .bool (decide (0 < T.al))] ∧ New w w' := by
  refine does Tryz.func90 ?_
  rw [ptr, talk_Talk_Asking_vc]
  rintro w1 hw1
  have hn : New w w1 := by rw [hw1]; exact new_drew _
  refine ⟨fun z => New w z, hn, _, _, _, fun z hz => (New.blk hz h).cell rfl, _, _, _, fun z hz => (New.blk hz h).cell rfl, ?_, hn⟩
  congr 4
  simp

theorem Mismatch_c {w : World} {tb : Nat} {T : TkX} (h : Blk w tb T.cells TTk) : Does 91 [ptr tb] w fun v w' => v = .bool (T.wrong || decide (0 < T.gl)) ∧ w' = w := by
  refine does Tryz.func91 ?_
  rw [ptr, talk_Talk_Mismatch_vc]
  refine ⟨_, h.cell rfl, ?_⟩
  cases hw : T.wrong with
  | true => exact bif_t rfl ⟨by simp, rfl⟩
  | false =>
    refine bif_f rfl ⟨_, _, _, h.cell rfl, ?_, rfl⟩
    congr 1
    simp

theorem pnext_ok (j : Job) (G : List (List Done)) (h : j.valid = 0) : pnext j G = (match (run1 j (ballot j.round j.client) 0 G).ask with
    | some vs => (vs, out0, false)
    | none => if (run1 j (ballot j.round j.client) 0 G).wrong || decide (0 < (run1 j (ballot j.round j.client) 0 G).got.length) then ([], ⟨6, 0, 0⟩, true) else ([], (run1 j (ballot j.round j.client) 0 G).out, true)) := by
  unfold pnext
  rw [if_neg (fun e => e h)]
  rfl

theorem jvalid_zero {j : Job} (h : j.valid = 0) : (1 ≤ j.nodes ∧ j.nodes ≤ 5) ∧ (0 ≤ j.number ∧ j.number < 16) ∧ (1 ≤ j.round ∧ j.round ≤ 500) ∧ (0 ≤ j.client ∧ j.client ≤ 5) ∧ j.value ≠ 0 ∧ j.value < 1099511627776 := by
  unfold Job.valid at h
  repeat' split at h
  all_goals first | omega | cases h

theorem swapAsk_ne {j : Job} {nx : Int → Int} {G : List (List Done)} {l : List Acc} {vs : List Verb} (h : (batch G (swapAsk j nx l)).ask = some vs) : vs ≠ [] := by
  have := batch_ask h
  subst this
  intro he
  rw [he] at h
  simp [batch] at h

theorem run_ask {j : Job} {b g : Int} {G : List (List Done)} {vs : List Verb} (h : (run1 j b g G).ask = some vs) : vs ≠ [] := by
  have key : ∀ {G : List (List Done)} {l vs : List Verb}, (batch G l).ask = some vs → vs ≠ [] := by
    intro G l vs h
    have := batch_ask h
    subst this
    intro he
    rw [he] at h
    simp [batch] at h
  unfold run1 at h
  dsimp only at h
  split at h
  · exact key h
  · split at h
    · exact key h
    · unfold run2 at h
      dsimp only at h
      split at h
      · exact key h
      · split at h
        · exact key h
        · unfold run3 at h
          dsimp only at h
          split at h
          · exact key h
          · split at h
            · exact key h
            · exact key h

set_option maxHeartbeats 2000000 in
theorem PNext_c {A : Nat → Prop} {w : World} {j : Job} {ga : Option Addr} {gl gc : Nat} {G : List (List Done)} (hg : GotAt A w ga G) (hgl : gl = G.length) (hgc : gl ≤ gc) (hv : U64 j.value) :
    Does 77 [j.val, .slice ga gl gc] w fun v w' => New w w' ∧ ∃ aa ac, v = .tuple #[.slice aa (pnext j G).1.length ac, (pnext j G).2.1.val, .bool (pnext j G).2.2] ∧ Rd w' aa (vrows ((pnext j G).1.map Verb.v)).flatten ∧ (∀ k, isB aa k → w.heap.size ≤ k) := by
  refine does Tryz.func77 ?_
  refine Eq.mpr (paxos_Next_vc j.nodes j.number j.client j.round j.value ga gl gc w _) ?_
  rintro b1 w1 hb1 hw1 b2 w2 hb2 hw2
  obtain ⟨hz1, hn1⟩ := box_new hb1 hw1
  obtain ⟨hz2, hn2⟩ := box_new hb2 hw2
  have hz12 := New.blk hn2 hz1
  have hs1 := hz1.lt
  have hs2 := hz2.lt
  have hs12 := hn1.size
  clear hw1 hw2 hz1
  refine ⟨j.nodes, j.number, j.client, j.round, j.value, cellsAt_blk hz12 (by simp), ?_⟩
  refine at_call (PValid_c _ j) ?_
  rintro v w3 ⟨rfl, hn3⟩
  have hn03 : New w w3 := (hn1.new hn2).new hn3
  have hz23 := New.blk hn3 hz2
  have hz13 := New.blk hn3 hz12
  have hs23 := hn3.size
  have hnil : ∀ (z : World) k, isB (none : Option Addr) k → w.heap.size ≤ k := fun z k hk => by obtain ⟨o, ho⟩ := hk; cases ho
  refine ⟨_, rfl, bif_bne (fun hc => ?_) (fun hc => ?_)⟩
  · have he : pnext j G = ([], ⟨j.valid, 0, 0⟩, true) := by unfold pnext; rw [if_pos hc]
    rw [he]
    refine put_k (vs := Out.cells ⟨j.valid, 0, 0⟩) hz23 rfl (Out.single _) fun w' hb' hk' => ?_
    refine oload hb' ⟨rfl, hn03.trans hk' fun k hlt e => by omega, none, 0, rfl, .inl rfl, hnil w⟩
  obtain ⟨v1, v2, v3, v4, v5, v6⟩ := jvalid_zero hc
  rintro w5 hw5
  have hn5 : New w3 w5 := by rw [hw5]; exact new_drew _
  clear hw5
  refine ⟨fun z => New w5 z, Keep.refl _ _, j.nodes, j.number, j.client, j.round, j.value, fun z hz => cellsAt_blk (New.blk (hn5.new hz) hz13) (by simp), ?_⟩
  refine at_call (TNew_c _ _ _ _) ?_
  rintro v w6 ⟨tb, rfl, htb, hbt, hn6⟩
  refine ⟨_, rfl, hn6, ?_⟩
  intro b3 w7 hb3 hw7
  obtain ⟨hz7, hn7⟩ := box_new hb3 hw7
  clear hw7
  have hn37 : New w3 w7 := (hn5.new hn6).new hn7
  refine ⟨hn6.new hn7, _, (New.blk hn37 hz13).cell (i := 3) rfl, _, (New.blk hn37 hz13).cell (i := 2) rfl, ?_⟩
  refine at_call (Ballot_c _ _ _) ?_
  rintro v w8 ⟨rfl, rfl⟩
  refine ⟨_, _, rfl, ⟨_, hz7.cell rfl⟩, hz7.frozen, ?_⟩
  rw [if_pos ⟨v3.1, v3.2, v4⟩]
  rintro w9 hw9
  have hz9 : Blk w9 b3 (prc j tb (ballot j.round j.client) 0) TPr := by rw [hw9]; exact hz7.setCell _
  have hs5 := hn5.size
  have hs6 := hn6.size
  have hs7 := hn7.size
  have hn39 : New w3 w9 := by rw [hw9]; exact Keep.setCell hn37 (.inr (by omega)) _
  have hbt9 : Blk w9 tb (TkX.cells ⟨ga, gl, gc, none, 0, 0, false⟩) TTk := by
    rw [hw9]
    exact (New.blk hn7 hbt).setCell_ne (by have := hbt.lt; omega) _
  clear hw9 hz7
  have hs9 := hn39.size
  have htl := hbt.lt
  have hb3l := hz9.lt
  have hP : PW A w w9 b3 tb j (ballot j.round j.client) 0 ⟨ga, gl, gc, none, 0, 0, false⟩ G false :=
    ⟨hn03.new hn39, by omega, by omega, hz9, hbt9, hg, hgl, hgc, ⟨by decide, by decide⟩, rfl⟩
  refine at_call (run_c hP rfl v1 (by unfold ballot; omega) hv.1) ?_
  rw [pnext_ok j G hc]
  have hra := fun vs => run_ask (j := j) (b := ballot j.round j.client) (g := 0) (G := G) (vs := vs)
  generalize run1 j (ballot j.round j.client) 0 G = r at hra ⊢
  rintro v w10 ⟨rfl, T', g', hP10, hA10, hk10⟩
  refine ⟨_, _, _, rfl, ?_⟩
  have hz210 : Blk w10 b2 [.int .i64 0, .int .u64 0, .int .i64 0] TOu := hk10.blk (New.blk hn39 hz23) (by omega)
  refine put_k (vs := r.out.cells) hz210 rfl (Out.single _) fun w11 hb11 hk11 => ?_
  have hP11 := hP10.keep hk11 (fun k e => by omega) (by omega) (by omega)
  have hA11 := hA10.keep hk11 (fun k e => by omega)
  refine ⟨_, hP11.pr.cell (i := 5) rfl, ?_⟩
  refine at_call (Asking_c hP11.tk) ?_
  rintro v w12 ⟨rfl, hn12⟩
  have hP12 := hP11.new' hn12
  have hb12 := New.blk hn12 hb11
  refine ⟨_, _, _, _, rfl, ?_⟩
  cases hask : r.ask with
  | some vs =>
    rw [hask] at hA11
    obtain ⟨ha1, ha2, ha3⟩ := hA11
    have hne := hra vs hask
    have hpos : 0 < vs.length := List.length_pos_iff.2 hne
    refine bif_t (by rw [ha1]; simpa using hpos) ?_
    refine put_k (vs := Out.cells out0) hb12 rfl (Out.single _) fun w13 hb13 hk13 => ?_
    refine oload hb13 ⟨rfl, hP12.new.trans hk13 fun k hlt e => by omega, T'.aa, T'.ac, by rw [ha1]; rfl, ?_, fun k hk => by have := ha3 k hk; omega⟩
    refine (ha2.new hn12).keep hk13 (off_of ha2 fun k hk e => ?_)
    have := ha3 k hk
    omega
  | none =>
    rw [hask] at hA11
    have hal : T'.al = 0 := hA11
    refine bif_f (by rw [hal]; rfl) ?_
    refine ⟨_, hP12.pr.cell (i := 5) rfl, ?_⟩
    refine at_call (Mismatch_c hP12.tk) ?_
    rintro v w14 ⟨rfl, rfl⟩
    refine ⟨_, rfl, ?_⟩
    have hmm : (T'.wrong || decide (0 < T'.gl)) = (r.wrong || decide (0 < r.got.length)) := by rw [hP12.wrong, hP12.gl]; simp
    rw [hmm]
    have hbase := hP12.new
    cases hm : (r.wrong || decide (0 < r.got.length)) with
    | true =>
      refine bif_t rfl ?_
      refine put_k (vs := Out.cells ⟨6, 0, 0⟩) hb12 rfl (Out.single _) fun w15 hb15 hk15 => ?_
      rintro w16 hw16
      have hn16 : New w15 w16 := by rw [hw16]; exact new_drew _
      refine ⟨fun z => New w15 z, hn16, 6, 0, 0, fun z hz => cellsAt_blk (New.blk hz hb15) (by simp [Out.cells]), ?_⟩
      refine put_k (vs := Out.cells ⟨6, 0, 0⟩) (New.blk hn16 hb15) rfl (Out.single _) fun w17 hb17 hk17 => ?_
      refine oload hb17 ⟨rfl, ((hbase.trans hk15 fun k hlt e => by omega).new hn16).trans hk17 fun k hlt e => by omega, none, 0, rfl, .inl rfl, hnil w⟩
    | false =>
      refine bif_f rfl ?_
      rintro w16 hw16
      have hn16 : New w14 w16 := by rw [hw16]; exact new_drew _
      refine ⟨fun z => New w14 z, hn16, r.out.code, r.out.value, r.out.round, fun z hz => cellsAt_blk (New.blk hz hb12) (by simp [Out.cells]), ?_⟩
      refine put_k (vs := r.out.cells) (New.blk hn16 hb12) rfl (Out.single _) fun w17 hb17 hk17 => ?_
      refine oload hb17 ⟨rfl, (hbase.new hn16).trans hk17 fun k hlt e => by omega, none, 0, rfl, .inl rfl, hnil w⟩
end Go.Proofs.YteaknokogenndaaGreat
