/- Package paxos: a run, and the next batch of a proposal. -/
import Derived.Test.YteaknokogenndaaGreatPax4
set_option linter.unusedVariables false
namespace Go.Proofs.YteaknokogenndaaGreat
open Go.Eng

attribute [local irreducible] okFun callY callF

theorem cwOf_u64 {p a v : Int} (hp : 0 ≤ p) (ha : 0 ≤ a) (hv : 0 ≤ v) : U64 (cwOf p a v) := by
  unfold cwOf U64
  split
  · unfold cw; omega
  · omega

theorem batch_ok {G : List (List Done)} {vs : List Verb} (h : (batch G vs).ok = true) : (batch G vs).ask = none ∧ (batch G vs).wrong = false := by
  unfold batch at h ⊢
  split
  · exact ⟨rfl, rfl⟩
  · rename_i hv
    rw [if_neg hv] at h
    cases G with
    | nil => simp at h
    | cons d G' =>
      simp only at h ⊢
      split
      · exact ⟨rfl, rfl⟩
      · rename_i hf
        rw [if_neg hf] at h
        simp at h

theorem valueGo_nonneg : ∀ (l : List Acc) (v g : Int), 0 ≤ v → 0 ≤ valueGo l v g
  | [], v, g, h => h
  | a :: l, v, g, h => by
    unfold valueGo
    split
    · exact valueGo_nonneg l _ _ (cwV_in _).1
    · exact valueGo_nonneg l _ _ h

/-- What a run leaves in memory. -/
def RunPost (A : Nat → Prop) (w0 u : World) (pb tb : Nat) (j : Job) (b : Int) (wr : Bool) (r : RunRes) (v : Value) (u' : World) : Prop :=
  v = r.out.val ∧ ∃ T' g', PW A w0 u' pb tb j b g' T' r.got (wr || r.wrong) ∧ AskIs u.heap.size u' T' r.ask ∧ Keep (fun k => k = pb ∨ k = tb) u u'

theorem ret_k {A : Nat → Prop} {w0 u z : World} {pb tb b2 lo : Nat} {j : Job} {b g : Int} {T : TkX} {wr : Bool} {r : RunRes} {cs : List Value} (hP : PW A w0 z pb tb j b g T r.got (wr || r.wrong)) (hA : AskIs lo z T r.ask) (hk : Keep (fun k => k = pb ∨ k = tb) u z)
    (hb : Blk z b2 cs TOu) (hc : cs.length = 3) (h1 : u.heap.size ≤ b2) (h2 : b2 < lo) (hpb : pb < u.heap.size) (htb : tb < u.heap.size) (h0 : w0.heap.size ≤ u.heap.size) :
    wrAt z ⟨b2, 0, none⟩ 0 [.int .i64 r.out.code, .int .u64 r.out.value, .int .i64 r.out.round] ∧ ∀ w', w' = puts z ⟨b2, 0, none⟩ 0 [.int .i64 r.out.code, .int .u64 r.out.value, .int .i64 r.out.round] →
      ∃ (x y q : Int), cellsAt w' ⟨b2, 0, none⟩ 0 [.int .i64 x, .int .u64 y, .int .i64 q] ∧ w' = w' ∧ RunPost A w0 u pb tb j b wr r (.agg #[.int .i64 x, .int .u64 y, .int .i64 q]) w' := by
  refine put_k (vs := r.out.cells) hb (by rw [hc]; rfl) (Out.single _) fun w' hb' hk' => ?_
  refine ⟨r.out.code, r.out.value, r.out.round, cellsAt_blk hb' (by simp [Out.cells]), rfl, rfl, T, g, ?_, ?_, ?_⟩
  · exact hP.keep hk' (fun k e => by omega) (by omega) (by omega)
  · exact (hA.keep hk' (fun k e => by omega)).mono (by omega)
  · refine hk.trans hk' (fun k hlt e => ?_)
    omega

theorem okPromise : okFun Tryz.prog 104 = true := by kernel_rfl
theorem okRun1 : okFun Tryz.prog 106 = true := by kernel_rfl

theorem next_promise {pb tb : Nat} {j : Job} {b : Int} (hb : 0 ≤ b) (u : World) : NextFn pb tb j b (.func (.func 104) #[ptr pb] #[]) (promiseW b) u := by
  refine ⟨fun z g' x Q hk hpr hx hQ => ?_, fun x hx => cwOf_u64 hb (cwA_in _).1 (cwV_in _).1⟩
  have hx' : (#[ptr pb] ++ #[.int .u64 x] ++ #[] : Array Value) = #[ptr pb, .int .u64 x] := by simp
  refine callF_fn okPromise hx' ?_
  refine at_call (promise_c hpr hb hx) ?_
  rintro v z' ⟨rfl, hn⟩
  exact hQ z' hn

theorem next_run1 {pb tb c0 c1 : Nat} {j : Job} {b v : Int} (hb : 0 ≤ b) (hv : 0 ≤ v) {u : World} (h0 : Blk u c0 [ptr pb] 146) (h1 : Blk u c1 [.int .u64 v] TU64) (n0 : c0 ≠ pb ∧ c0 ≠ tb) (n1 : c1 ≠ pb ∧ c1 ≠ tb) :
    NextFn pb tb j b (.func (.func 106) #[] #[ptr c0, ptr c1]) (fun _ => cwOf b b v) u := by
  refine ⟨fun z g' x Q hk hpr hx hQ => ?_, fun x hx => cwOf_u64 hb hb hv⟩
  have hx' : (#[] ++ #[.int .u64 x] ++ #[ptr c0, ptr c1] : Array Value) = #[.int .u64 x, ptr c0, ptr c1] := by simp
  refine callF_fn okRun1 hx' ?_
  refine at_call (run1_c hpr hb hv (hk.blk h0 (by omega)) (hk.blk h1 (by omega))) ?_
  rintro r z' ⟨rfl, hn⟩
  exact hQ z' hn

theorem readGo_le {G : List (List Done)} {j : Job} {g : Int} (hj : 1 ≤ j.nodes ∧ j.nodes ≤ 5) : (readGo 0 (batch G (readAsk j)).done [] g).1.length ≤ 5 := by
  have h1 := readGo_len 0 (batch G (readAsk j)).done [] g
  have h2 := batch_len (G := G) (vs := readAsk j)
  have h3 : (readAsk j).length = j.nodes.toNat := by simp [readAsk]
  simp at h1
  omega

theorem swapGo_len (nx : Int → Int) : ∀ (l : List Acc) (ds : List Done) (n : Nat) (acc : List Acc) (g : Int), (swapGo nx l ds n acc g).2.1.length ≤ acc.length + l.length
  | [], _, n, acc, g => by simp [swapGo]
  | a :: l, [], n, acc, g => by simp [swapGo]
  | a :: l, d :: ds, n, acc, g => by
    unfold swapGo
    split
    · have := swapGo_len nx l ds n acc g
      simp at this ⊢; omega
    · split
      · have := swapGo_len nx l ds (n + 1) acc (max g (cwP (wordOf d)))
        simp at this ⊢; omega
      · have := swapGo_len nx l ds (n + 1) (acc ++ [⟨a.node, nx (wordOf d)⟩]) g
        simp at this ⊢; omega

theorem cand_snoc {b : Int} {l : List Acc} {i : Nat} (h : i < l.length) : candOf b (l.take (i + 1)) = candOf b (l.take i) ++ (if cwP l[i].word < b then [l[i]] else []) := by
  unfold candOf
  rw [List.take_succ_eq_append_getElem h, List.filter_append]
  congr 1
  by_cases hc : cwP l[i].word < b <;> simp [hc]

theorem cand_len (b : Int) (l : List Acc) : (candOf b l).length ≤ l.length := List.length_filter_le _ _

set_option maxHeartbeats 4000000 in
theorem run_c {A : Nat → Prop} {w0 u : World} {pb tb : Nat} {j : Job} {b g : Int} {T : TkX} {G : List (List Done)} {wr : Bool} (h : PW A w0 u pb tb j b g T G wr) (hT : T.al = 0) (hj : 1 ≤ j.nodes ∧ j.nodes ≤ 5) (hb : 0 ≤ b) (hv : 0 ≤ j.value) :
    Does 89 [ptr pb] u (RunPost A w0 u pb tb j b wr (run1 j b g G)) := by
  refine does Tryz.func89 ?_
  rw [ptr, paxos_proposer_run_vc]
  have hpbl : pb < u.heap.size := h.pr.lt
  have htbl : tb < u.heap.size := h.tk.lt
  have h0u : w0.heap.size ≤ u.heap.size := h.new.size
  rintro b1 w1 hb1 hw1 b2 w2 hb2 hw2
  obtain ⟨hz1, hn1⟩ := box_new hb1 hw1
  obtain ⟨hz2, hn2⟩ := box_new hb2 hw2
  have hs1 := hz1.lt
  have hs2 := hz2.lt
  have hs12 := hn1.size
  have hz12 := New.blk hn2 hz1
  clear hw1 hw2 hz1
  have h2 := h.new' (hn1.new hn2)
  refine ⟨_, hz12.cell rfl, ?_⟩
  refine at_call (read_c h2 hT hj) ?_
  unfold run1
  dsimp only
  have hrl := readGo_le (G := G) (g := g) hj
  generalize hr1 : batch G (readAsk j) = r1 at hrl ⊢
  have hr1ok : r1.ok = true → r1.ask = none ∧ r1.wrong = false := fun e => by rw [← hr1] at e ⊢; exact batch_ok e
  generalize hs : readGo 0 r1.done [] g = s1 at hrl ⊢
  rintro v w3 ⟨a3, c3, T3, rfl, h3, ho3, hf3, ha3, hk3, hu3⟩
  refine ⟨_, _, _, _, rfl, ?_⟩
  have hku3 : Keep (fun k => k = pb ∨ k = tb) u w3 := (Keep.of_new (hn1.new hn2)).trans hk3 fun _ _ e => e
  have hb23 : Blk w3 b2 [.int .i64 0, .int .u64 0, .int .i64 0] TOu := hk3.blk hz2 (by omega)
  have hb13 : Blk w3 b1 [ptr pb] 146 := hk3.blk hz12 (by omega)
  refine bif_not (fun hf => ?_) (fun hf => ?_)
  · rw [if_pos hf]
    exact ret_k (lo := w2.heap.size) (r := ⟨r1.got, r1.ask, r1.wrong, out0⟩) h3 ha3 hku3 hb23 rfl (by omega) (by omega) hpbl htbl h0u
  rw [if_neg (by rw [hf]; simp)]
  obtain ⟨hnk1, hnw1⟩ := hr1ok hf
  rw [hnw1, Bool.or_false] at h3
  rw [hnk1] at ha3
  refine loop_rule mix (fun m env z => ∃ (i : Nat) (a : Option Addr) (cap : Nat) (jj : List Value), m = s1.1.length - i ∧ i ≤ s1.1.length ∧ env = paxos_proposer_run_env1 ⟨b1, 0, none⟩ ⟨b2, 0, none⟩ a3 s1.1.length c3 a (candOf b (s1.1.take i)).length cap a3 s1.1.length c3 s1.1.length i jj ∧
      New w3 z ∧ Owns z TAc 2 a (candOf b (s1.1.take i)).length cap (arows (candOf b (s1.1.take i))).flatten ∧ (∀ k, isB a k → w3.heap.size ≤ k)) s1.1.length
    ⟨0, none, 0, _, rfl, by omega, rfl, Keep.refl _ _, Owns.nil _ _ _, fun k hk => by obtain ⟨o, ho⟩ := hk; cases ho⟩ ?_
  rintro m env z ⟨i, a, cap, jj, rfl, hi, rfl, hnz, hoz, hfz⟩
  have hcl := cand_len b (s1.1.take i)
  have htk : (s1.1.take i).length ≤ s1.1.length := by simp; omega
  rw [paxos_proposer_run_loop1_body]
  refine bif_dec (fun hp => ?_) (fun hp => ?_)
  · have hlt : i < s1.1.length := by omega
    have hg : s1.1[i]? = some s1.1[i] := List.getElem?_eq_getElem hlt
    have hwu := hu3 _ (List.mem_of_getElem? hg)
    have hcs := cand_snoc (b := b) hlt
    obtain ⟨ba, oa, rfl, hca, hcell⟩ := (ho3.rd.new hnz).row (arows_len s1.1) (by omega) (arows_get hg)
    refine idxS_mk (by omega) (by omega) ?_
    refine ⟨s1.1[i].node, s1.1[i].word, by simpa [Acc.cells] using hca, ?_⟩
    refine box_k (vs := Acc.cells s1.1[i]) rfl (Acc.single _) fun b4 z2 hb4 hz4 hn4 => ?_
    refine ⟨_, hz4.cell rfl, ?_⟩
    refine at_call (Split_c _ hwu.1 hwu.2) ?_
    rintro v z3 ⟨rfl, rfl⟩
    have hnz4 := hnz.new hn4
    refine ⟨_, _, _, rfl, some ⟨pb, 0, none⟩, (New.blk hnz4 hb13).cell rfl, b, (New.blk hnz4 h3.pr).cell (i := 6) rfl, bif_dec (fun hc => ?_) (fun hc => ?_)⟩
    · rw [if_pos hc] at hcs
      refine ⟨s1.1[i].node, s1.1[i].word, cellsAt_blk hz4 (by simp [Acc.cells]), ?_⟩
      refine pushA_k (v := s1.1[i]) (Owns.new hn4 hoz) (by omega) ?_
      intro b5 ap cap' z5 hb5 ho5 hk5 hap
      rw [w64 (by omega) (by omega)]
      refine ⟨s1.1.length - (i + 1), by omega, i + 1, ap, cap', _, rfl, by omega, by rw [hcs, List.length_append]; rfl, new_fresh hnz4 hk5 hfz, ?_, ?_⟩
      · rw [hcs, arows_snoc, List.length_append]
        exact ho5
      · intro k hk
        rcases hap k hk with h1 | h1
        · exact hfz k h1
        · have := hnz4.size
          omega
    · rw [if_neg hc, List.append_nil] at hcs
      rw [w64 (by omega) (by omega)]
      refine ⟨s1.1.length - (i + 1), by omega, i + 1, a, cap, _, rfl, by omega, by rw [hcs]; rfl, hnz4, ?_, hfz⟩
      rw [hcs]
      exact Owns.new hn4 hoz
  have hin : i = s1.1.length := by omega
  subst hin
  rw [List.take_of_length_le (Nat.le_refl _)] at hoz hcl ⊢
  clear hp hi htk
  rw [paxos_proposer_run_aft1_vc]
  generalize hcc : candOf b s1.1 = cc at hoz hcl ⊢
  have hccw : ∀ x ∈ cc, U64 x.word := fun x hx => hu3 x (by rw [← hcc] at hx; exact (List.mem_filter.1 hx).1)
  have hP := h3.new' hnz
  have hkuz : Keep (fun k => k = pb ∨ k = tb) u z := hku3.new hnz
  have hb1z := New.blk hnz hb13
  have hb2z := New.blk hnz hb23
  have haz : AskIs w2.heap.size z T3 none := ha3
  have hw3z : w3.heap.size ≤ z.heap.size := hnz.size
  have hw23 : w2.heap.size ≤ w3.heap.size := hk3.size
  refine ⟨_, hb1z.cell rfl, ?_⟩
  refine at_call (judge_c hP.pr hP.g64 hj.2 _ _) ?_
  generalize hjo : judge j.nodes (s1.1.length : Int) (cc.length : Int) s1.2 = o1
  rintro v z1 ⟨rfl, hnz1⟩
  refine ⟨_, _, _, rfl, ?_⟩
  refine box_k (vs := o1.cells) rfl (Out.single _) fun b3 z2 hb3 hz3 hnz2 => ?_
  have hnzz := hnz1.new hnz2
  have hP2 := hP.new' hnzz
  refine ⟨_, hz3.cell rfl, bif_bne (fun hc => ?_) (fun hc => ?_)⟩
  · refine ⟨o1.code, o1.value, o1.round, cellsAt_blk hz3 (by simp [Out.cells]), ?_⟩
    rw [if_pos hc]
    exact ret_k (lo := w2.heap.size) (r := ⟨r1.got, r1.ask, r1.wrong, o1⟩) (by rw [hnw1, Bool.or_false]; exact hP2) (by rw [hnk1]; exact ha3) (hkuz.new hnzz) (New.blk hnzz hb2z) rfl (by omega) (by omega) hpbl htbl h0u
  have hc' : ¬ o1.code ≠ 0 := fun e => e hc
  rw [if_neg hc']
  refine ⟨_, (New.blk hnzz hb1z).cell rfl, _, (New.blk hnzz hb1z).cell rfl, ?_⟩
  have hccr : Rd z2 a (arows cc).flatten := (Owns.new hnzz hoz).rd
  have hfz' : ∀ k, isB a k → k ≠ pb ∧ k ≠ tb := fun k hk => by have := hfz k hk; omega
  have hcc5 : cc.length ≤ 5 := by omega
  refine at_call (swap_c hP2 ha3 hccr hfz' hccw (by omega) (next_promise hb z2)) ?_
  unfold run2
  dsimp only
  have hzs : z.heap.size ≤ z2.heap.size := hnzz.size
  generalize hr2 : batch r1.got (swapAsk j (promiseW b) cc) = r2
  have hr2ok : r2.ok = true → r2.ask = none ∧ r2.wrong = false := fun e => by rw [← hr2] at e ⊢; exact batch_ok e
  have hsl := swapGo_len (promiseW b) cc r2.done 0 [] s1.2
  generalize hs2' : swapGo (promiseW b) cc r2.done 0 [] s1.2 = s2 at hsl ⊢
  rintro v w5 ⟨a5, c5, T5, rfl, h5, ho5, hf5, ha5, hk5, hu5⟩
  refine ⟨_, _, _, _, _, rfl, ?_⟩
  have hku5 : Keep (fun k => k = pb ∨ k = tb) u w5 := (hkuz.new hnzz).trans hk5 fun _ _ e => e
  have hb25 : Blk w5 b2 [.int .i64 0, .int .u64 0, .int .i64 0] TOu := hk5.blk (New.blk hnzz hb2z) (by omega)
  have hb15 : Blk w5 b1 [ptr pb] 146 := hk5.blk (New.blk hnzz hb1z) (by omega)
  refine bif_not (fun hf2 => ?_) (fun hf2 => ?_)
  · rw [if_pos hf2]
    exact ret_k (lo := z2.heap.size) (r := ⟨r2.got, r2.ask, r2.wrong, out0⟩) h5 ha5 hku5 hb25 rfl (by omega) (by omega) hpbl htbl h0u
  rw [if_neg (by rw [hf2]; simp)]
  obtain ⟨hnk2, hnw2⟩ := hr2ok hf2
  rw [hnw2, Bool.or_false] at h5
  rw [hnk2] at ha5
  have hw5z : z2.heap.size ≤ w5.heap.size := hk5.size
  refine ⟨_, hb15.cell rfl, ?_⟩
  refine at_call (judge_c h5.pr h5.g64 hj.2 _ _) ?_
  generalize hjo2 : judge j.nodes (s2.1 : Int) (s2.2.1.length : Int) s2.2.2 = o2
  rintro v y1 ⟨rfl, hny1⟩
  refine ⟨_, _, _, rfl, ?_⟩
  refine box_k (vs := o2.cells) rfl (Out.single _) fun b6 y2 hb6 hz6 hny2 => ?_
  have hnyy := hny1.new hny2
  have hP6 := h5.new' hnyy
  refine ⟨_, hz6.cell rfl, bif_bne (fun hd => ?_) (fun hd => ?_)⟩
  · refine ⟨o2.code, o2.value, o2.round, cellsAt_blk hz6 (by simp [Out.cells]), ?_⟩
    rw [if_pos hd]
    exact ret_k (lo := z2.heap.size) (r := ⟨r2.got, r2.ask, r2.wrong, o2⟩) (by rw [hnw2, Bool.or_false]; exact hP6) (by rw [hnk2]; exact ha5) (hku5.new hnyy) (New.blk hnyy hb25) rfl (by omega) (by omega) hpbl htbl h0u
  have hd' : ¬ o2.code ≠ 0 := fun e => e hd
  rw [if_neg hd']
  refine ⟨_, (New.blk hnyy hb15).cell rfl, ?_⟩
  have hpr5 : Rd y2 a5 (arows s2.2.1).flatten := (Owns.new hnyy ho5).rd
  have hfz5 : ∀ k, isB a5 k → k ≠ pb ∧ k ≠ tb := fun k hk => by have := hf5 k hk; omega
  simp only [List.length_nil, Nat.zero_add] at hsl
  refine at_call (value_c hP6.pr hpr5 hu5 (by omega)) ?_
  unfold run3
  dsimp only
  have hvn := valueGo_nonneg s2.2.1 j.value 0 hv
  generalize hvv : valueGo s2.2.1 j.value 0 = vv at hvn ⊢
  rintro v y3 ⟨rfl, hny3⟩
  refine ⟨_, rfl, ?_⟩
  intro b7 y4 hb7 hy4
  obtain ⟨hz7, hny4⟩ := box_new hb7 hy4
  refine ⟨⟨_, hz7.cell rfl⟩, hz7.frozen, ?_⟩
  rintro y5 hy5
  have hz75 : Blk y5 b7 [.int .u64 vv] TU64 := by rw [hy5]; exact hz7.setCell _
  have hny5 : New y2 y5 := by rw [hy5]; exact Keep.setCell (hny3.new hny4) (.inr (by have := hny3.size; omega)) _
  clear hy5 hy4 hz7
  have hP7 := hP6.new' hny5
  have hb17 := New.blk (hnyy.new hny5) hb15
  have hb27 := New.blk (hnyy.new hny5) hb25
  have hy25 : y2.heap.size ≤ y5.heap.size := hny5.size
  have hwy2 : w5.heap.size ≤ y2.heap.size := hnyy.size
  have hy23 := hny3.size
  have hb7l := hz75.lt
  refine ⟨_, hb17.cell rfl, ?_⟩
  refine at_call (swap_c hP7 ha5 (hpr5.new hny5) hfz5 hu5 (by omega) (next_run1 hb hvn hb17 hz75 (by omega) (by omega))) ?_
  generalize hr3 : batch r2.got (swapAsk j (fun _ => cwOf b b vv) s2.2.1) = r3
  have hr3ok : r3.ok = true → r3.ask = none ∧ r3.wrong = false := fun e => by rw [← hr3] at e ⊢; exact batch_ok e
  generalize hs3' : swapGo (fun _ => cwOf b b vv) s2.2.1 r3.done 0 [] s2.2.2 = s3
  rintro v x5 ⟨a8, c8, T8, rfl, h8, ho8, hf8, ha8, hk8, hu8⟩
  refine ⟨_, _, _, _, _, rfl, ?_⟩
  have hku8 : Keep (fun k => k = pb ∨ k = tb) u x5 := (hku5.new (hnyy.new hny5)).trans hk8 fun _ _ e => e
  have hb28 : Blk x5 b2 [.int .i64 0, .int .u64 0, .int .i64 0] TOu := hk8.blk hb27 (by omega)
  have hb18 : Blk x5 b1 [ptr pb] 146 := hk8.blk hb17 (by omega)
  have hb78 : Blk x5 b7 [.int .u64 vv] TU64 := hk8.blk hz75 (by omega)
  refine bif_not (fun hf3 => ?_) (fun hf3 => ?_)
  · rw [if_pos hf3]
    exact ret_k (lo := y5.heap.size) (r := ⟨r3.got, r3.ask, r3.wrong, out0⟩) h8 ha8 hku8 hb28 rfl (by omega) (by omega) hpbl htbl h0u
  rw [if_neg (by rw [hf3]; simp)]
  obtain ⟨hnk3, hnw3⟩ := hr3ok hf3
  rw [hnw3, Bool.or_false] at h8
  rw [hnk3] at ha8
  refine ⟨_, hb18.cell rfl, ?_⟩
  refine at_call (judge_c h8.pr h8.g64 hj.2 _ _) ?_
  generalize hjo3 : judge j.nodes (s3.1 : Int) (s3.2.1.length : Int) s3.2.2 = o3
  rintro v q1 ⟨rfl, hnq1⟩
  refine ⟨_, _, _, rfl, ?_⟩
  refine box_k (vs := o3.cells) rfl (Out.single _) fun b9 q2 hb9 hz9 hnq2 => ?_
  have hnqq := hnq1.new hnq2
  have hP9 := h8.new' hnqq
  refine ⟨_, hz9.cell rfl, bif_bne (fun he => ?_) (fun he => ?_)⟩
  · refine ⟨o3.code, o3.value, o3.round, cellsAt_blk hz9 (by simp [Out.cells]), ?_⟩
    rw [if_pos he]
    exact ret_k (lo := y5.heap.size) (r := ⟨r3.got, r3.ask, r3.wrong, o3⟩) (by rw [hnw3, Bool.or_false]; exact hP9) (by rw [hnk3]; exact ha8) (hku8.new hnqq) (New.blk hnqq hb28) rfl (by omega) (by omega) hpbl htbl h0u
  · have he' : ¬ o3.code ≠ 0 := fun e => e he
    rw [if_neg he']
    refine ⟨_, (New.blk hnqq hb78).cell rfl, ?_⟩
    exact ret_k (lo := y5.heap.size) (r := ⟨r3.got, r3.ask, r3.wrong, ⟨0, vv, 0⟩⟩) (by rw [hnw3, Bool.or_false]; exact hP9) (by rw [hnk3]; exact ha8) (hku8.new hnqq) (New.blk hnqq hb28) rfl (by omega) (by omega) hpbl htbl h0u
end Go.Proofs.YteaknokogenndaaGreat
