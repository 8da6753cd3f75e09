/- The law PaxosMinority: it returns true at every input. -/
import Derived.Test.YteaknokogenndaaGreatLone
set_option linter.unusedVariables false
namespace Go.Proofs.YteaknokogenndaaGreat
open Go.Eng

/-! ### A fabric of one's own -/

structure Mine (w : World) (fb : Nat) (F : Fab) (u : World) : Prop where
  ex : ∃ A χ X, FabAt A χ u fb X ∧ New w u ∧ (∀ k, A k → w.heap.size ≤ k) ∧ X.pure = F

theorem mine_op {w u u' : World} {fb : Nat} {A : Nat → Prop} {χ : Nat → Tag} {X : FabX} (hF : FabAt A χ u fb X) (hn : New w u) (hA : ∀ k, A k → w.heap.size ≤ k) {F : Fab} {K : (Nat → Prop) → Prop} (p : FPost A χ u fb F u' K) :
    ∃ A' χ' X', FabAt A' χ' u' fb X' ∧ New w u' ∧ (∀ k, A' k → w.heap.size ≤ k) ∧ X'.pure = F ∧ K A' := by
  obtain ⟨A', χ', X', nx, hF', hX', hK⟩ := p
  refine ⟨A', χ', X', hF', hn.trans nx.keep (fun k hk hc => ?_), fun k hk => ?_, hX', hK⟩
  · have := hA k (hF.avoid k hc)
    omega
  · by_cases hlt : k < u.heap.size
    · rcases (nx.iff k).1 hk with hc | hc
      · exact hA k (hF.avoid k (nx.grow k hlt hc))
      · exact hA k hc.2.1
    · have := hn.size; omega

/-! ### The model -/

def n0 (n : Nat) : NodeS := ⟨fmt 98 n, false⟩
/-- The last k of n memory nodes are down. -/
def mF (n c k : Nat) : Fab := { Fab.fresh n c 98 with nodes := List.replicate (n - k) (n0 n) ++ List.replicate k (failN (n0 n)) }

theorem mF_zero (n c : Nat) : mF n c 0 = Fab.fresh n c 98 := by unfold mF; simp [Fab.fresh, n0]

theorem mF_step {n c k : Nat} (hk : k < n) : (mF n c k).setN (n - 1 - k) failN = mF n c (k + 1) := by
  have hg : (mF n c k).nodes[n - 1 - k]? = some (n0 n) := by
    show (List.replicate (n - k) (n0 n) ++ List.replicate k (failN (n0 n)))[n - 1 - k]? = _
    rw [List.getElem?_append_left (by simp; omega), List.getElem?_replicate, if_pos (by omega)]
  unfold Fab.setN
  rw [hg]
  unfold mF
  dsimp only
  congr 1
  apply List.ext_getElem?
  intro i
  rw [List.getElem?_set]
  simp only [List.getElem?_append, List.getElem?_replicate, List.length_append, List.length_replicate]
  repeat' split
  all_goals first | rfl | omega | skip

theorem fmt_12 (n : Nat) : (n0 n).get 12 = 0 := by kernel_rfl
theorem fmt_door (n : Nat) {c : Nat} (hc : c < 6) : (n0 n).get (24 + c) = 1 := by
  rcases c with _ | _ | _ | _ | _ | _ | c
  all_goals first | omega | kernel_rfl

theorem fail_get (m : NodeS) (i : Nat) : (failN m).get i = m.get i := rfl

theorem mF_mem {n c k : Nat} {m : NodeS} (h : m ∈ (mF n c k).nodes) : m = n0 n ∨ m = failN (n0 n) := by
  rcases List.mem_append.1 h with h | h
  · exact .inl (List.eq_of_mem_replicate h)
  · exact .inr (List.eq_of_mem_replicate h)

theorem ups_fail (a : Nat) (m : NodeS) (hm : m.down = true) : ∀ (k i : Nat), upsFrom a i (List.replicate k m) = []
  | 0, _ => rfl
  | k + 1, i => by rw [List.replicate_succ, upsFrom, if_pos hm]; exact ups_fail a m hm k (i + 1)

theorem ups_len (a : Nat) (m f : NodeS) (hm : m.down = false) (hf : f.down = true) : ∀ (p q i : Nat), (upsFrom a i (List.replicate p m ++ List.replicate q f)).length = p
  | 0, q, i => by rw [List.replicate_zero, List.nil_append, ups_fail a f hf]; rfl
  | p + 1, q, i => by
    rw [List.replicate_succ, List.cons_append, upsFrom, if_neg (by rw [hm]; simp), List.length_cons, ups_len a m f hm hf p q (i + 1)]

theorem valueGo_zero : ∀ (l : List Acc) (v : Int), (∀ x ∈ l, cwA x.word = 0) → valueGo l v 0 = v
  | [], _, _ => rfl
  | x :: l, v, h => by
    rw [valueGo, if_neg (by rw [h x List.mem_cons_self]; omega)]
    exact valueGo_zero l v fun y hy => h y (List.mem_cons_of_mem _ hy)

theorem fresh_quiet (n c lines : Nat) : Quiet (Fab.fresh n c lines) := by
  refine ⟨rfl, fun C hC l hl => ?_⟩
  simp [Fab.fresh] at hC
  obtain ⟨i, _, rfl⟩ := hC
  obtain ⟨j, hj⟩ := List.mem_iff_getElem?.1 hl
  obtain ⟨rfl, _⟩ := fresh_lane _ _ _ _ _ hj
  rfl

theorem fresh_born {n c lines i : Nat} (hi : i < c) : (Fab.fresh n c lines).clients[i]? = some (bornC n i) := by
  show ((List.range c).map (bornC n))[i]? = _
  simp [hi]

theorem Fine.mF {n c : Nat} (hn : 1 ≤ n ∧ n ≤ 5) (hc : 1 ≤ c ∧ c ≤ 6) : ∀ k, k ≤ n → Fine (mF n c k)
  | 0, _ => by rw [mF_zero]; exact Fine.fresh hn hc (by omega)
  | k + 1, hk => by rw [← mF_step (by omega)]; exact (Fine.mF hn hc k (by omega)).setN' _ fun _ => rfl

def mJob (n : Nat) (r : Int) : Job := ⟨n, 4, 0, r, 77⟩
def mTalk (n : Nat) (r : Int) : Talk := ⟨2, 0, mJob n r, [], false, false, 0, 0⟩

theorem mJob_valid {n : Nat} {r : Int} (hn : 1 ≤ n ∧ n ≤ 5) (hr : 1 ≤ r ∧ r ≤ 500) : (mJob n r).valid = 0 := by
  unfold Job.valid mJob
  dsimp only
  rw [if_neg (by omega), if_neg (by omega), if_neg (by omega), if_neg (by omega), if_neg (by omega)]

theorem mRun {n d : Nat} {r : Int} (hn : 1 ≤ n ∧ n ≤ 5) (hd : d ≤ n) (hr : 1 ≤ r ∧ r ≤ 500) :
    ∃ F' t', alone (mF n 1 d) (mTalk n r) = (F', [t']) ∧ t'.over = true ∧ (if (n : Int) - d < (n : Int) / 2 + 1 then t'.code = 9 ∧ F'.trips 0 = 1 else t'.code = 0 ∧ t'.value = 77 ∧ F'.trips 0 = 3) := by
  have hfine := Fine.mF hn (by omega : 1 ≤ 1 ∧ 1 ≤ 6) d hd
  have hcalm : Calm 0 (mF n 1 d) (bornC n 0) := ⟨hfine, ⟨(fresh_quiet n 1 98).orph, (fresh_quiet n 1 98).idle⟩, fresh_born (lines := 98) (by omega), rfl, rfl⟩
  have hnl : (mF n 1 d).nodes.length = n := by show (List.replicate (n - d) (n0 n) ++ List.replicate d (failN (n0 n))).length = n; simp; omega
  obtain ⟨F', C', t', he⟩ := lone hcalm (Nat.le_refl 98) (t := mTalk n r) rfl rfl rfl (j := mJob n r) rfl (a := 12) (mJob_valid hn hr) (by rw [hnl]; rfl) (show regAt 1 16 4 = 12 by decide) (by omega) (b := ballot r 0) rfl (fun m hm => by
    rcases mF_mem hm with rfl | rfl
    · rw [fmt_door n (by omega)]; exact (show (1 : Int) ≤ 1 by decide)
    · rw [fail_get, fmt_door n (by omega)]; exact (show (1 : Int) ≤ 1 by decide))
  refine ⟨F', t', he.run, he.over, ?_⟩
  have hmaj : majority (mJob n r).nodes = (n : Int) / 2 + 1 := by unfold majority mJob; dsimp only; rw [if_neg (by omega)]
  have hul : (upsFrom 12 0 (mF n 1 d).nodes).length = n - d := ups_len 12 (n0 n) (failN (n0 n)) rfl rfl (n - d) d 0
  have hcd : candsOf 12 (ballot r 0) (mF n 1 d).nodes = upsFrom 12 0 (mF n 1 d).nodes := by
    unfold candsOf candOf
    rw [List.filter_eq_self]
    intro x hx
    obtain ⟨k, m, g1, g2, rfl⟩ := ups_mem hx
    have hm : m.get 12 = 0 := by
      rcases mF_mem (List.mem_of_getElem? g1) with rfl | rfl
      · exact fmt_12 n
      · rw [fail_get]; exact fmt_12 n
    rw [hm]
    have : cwP 0 < ballot r 0 := by unfold ballot cwP; omega
    simpa using this
  have htr : F'.trips 0 = C'.trips := by
    have := cl_nat he.calm.cl
    unfold Fab.trips
    rw [show (0 : Int) = ((0 : Nat) : Int) from rfl, this]
  rcases he.out with ⟨h1, h2, _, h4⟩ | ⟨h1, h2, _⟩ | ⟨h1, h2, h3, h4, _, h6⟩
  · rw [hul, hmaj] at h1
    rw [if_pos (by omega)]
    exact ⟨h2, by rw [htr, h4]; rfl⟩
  · rw [hcd] at h2
    omega
  · rw [hul, hmaj] at h1
    rw [if_neg (by omega)]
    refine ⟨h3, ?_, by rw [htr, h6]; rfl⟩
    rw [h4]
    refine valueGo_zero _ _ fun y hy => ?_
    obtain ⟨x, hx, rfl⟩ := List.mem_map.1 hy
    obtain ⟨k, m, g1, g2, g3, rfl⟩ := cands_mem hx
    have hm : m.get 12 = 0 := by
      rcases mF_mem (List.mem_of_getElem? g1) with rfl | rfl
      · exact fmt_12 n
      · rw [fail_get]; exact fmt_12 n
    show cwA (promiseW (ballot r 0) (m.get 12)) = 0
    rw [hm]
    have h0 : cwA 0 = 0 := by decide
    have h1 : cwV 0 = 0 := by decide
    unfold promiseW cwOf
    rw [h0, h1, if_pos (by unfold ballot; omega)]
    exact cwA_cw (by omega) (by omega)

theorem mTalk_val (n : Nat) (r : Int) : (mTalk n r).val none 0 = .agg #[(.int .i64 2), (.int .i64 0), (.int .i64 n), (.int .i64 4), (.int .i64 0), (.int .i64 r), (.int .u64 77), (.slice none 0 0), (.bool false), (.bool false), (.int .i64 0), (.int .u64 0)] := rfl
theorem mTalk_tx (A : Nat → Prop) (u : World) (n : Nat) (r : Int) : TXAt A u ⟨mTalk n r, none, 0⟩ := ⟨GotAt.nil _ _ _, Nat.le_refl _, ⟨rfl, ⟨show (0 : Int) ≤ 77 by decide, show (77 : Int) < 18446744073709551616 by decide⟩, by simp [mTalk], fun _ => by simp [mTalk]⟩⟩

attribute [local irreducible] alone mTalk

/-- The law returns true. -/
theorem PaxosMinority_c (w : World) {x0 x1 x2 : Int} (i0 : I64 x0) (i1 : I64 x1) (i2 : I64 x2) : Does 6 [.int .i64 x0, .int .i64 x1, .int .i64 x2] w fun v w' => v = .bool true ∧ New w w' := by
  refine does Tryz.func6 ?_
  rw [bodegalaw9_PaxosMinority_vc]
  refine at_call (Pick_c _ _ _ i0 (by omega)) ?_
  rintro v w1 ⟨rfl, rfl⟩
  rw [if_neg (by omega)]
  refine ⟨_, rfl, ?_⟩
  refine at_call (Pick_c _ _ _ i2 (by omega)) ?_
  rintro v w1 ⟨rfl, rfl⟩
  rw [if_neg (by omega)]
  refine ⟨_, rfl, ?_⟩
  obtain ⟨n, hn⟩ : ∃ n : Nat, x0 % 5 + 1 = n := ⟨(x0 % 5 + 1).toNat, by omega⟩
  have hn5 : 1 ≤ n ∧ n ≤ 5 := by omega
  have hr : 1 ≤ x2 % 500 + 1 ∧ x2 % 500 + 1 ≤ 500 := by omega
  rw [w64 (x := x0 % 5 + 1) (by omega) (by omega), w64 (x := x2 % 500 + 1) (by omega) (by omega), w64 (x := x0 % 5 + 1 + 1) (by omega) (by omega), hn]
  generalize x2 % 500 + 1 = r at hr ⊢
  refine at_call (Pick_c _ _ _ i1 (by omega)) ?_
  rintro v w1 ⟨rfl, rfl⟩
  rw [if_neg (by omega)]
  refine ⟨_, rfl, ?_⟩
  have hd0 : 0 ≤ x1 % ((n : Int) + 1) ∧ x1 % ((n : Int) + 1) < n + 1 := ⟨Int.emod_nonneg _ (by omega), Int.emod_lt_of_pos _ (by omega)⟩
  obtain ⟨d, hd⟩ := Int.eq_ofNat_of_zero_le hd0.1
  rw [hd] at hd0 ⊢
  have hdn : d ≤ n := by omega
  refine at_call (Fresh_c (c := 1) (lines := 98) hn5 (by omega) (by omega)) ?_
  rintro v w2 ⟨fb, A, χ, X, rfl, hF, hn2, hA, hX⟩
  refine ⟨_, _, rfl, bif_f rfl ?_⟩
  refine at_call (awake_c _) ?_
  rintro v w3 ⟨rfl, hn3⟩
  refine ⟨_, rfl, bif_f rfl ?_⟩
  refine loop_rule mix (fun m env u => ∃ (k : Nat) (A : Nat → Prop) (χ : Nat → Tag) (X : FabX) (jj : List Value), m = d - k ∧ k ≤ d ∧ env = bodegalaw9_PaxosMinority_env1 n d r (some ⟨fb, 0, none⟩) k jj ∧ FabAt A χ u fb X ∧ New w1 u ∧ (∀ z, A z → w1.heap.size ≤ z) ∧ X.pure = mF n 1 k) d
    ⟨0, A, χ, X, _, rfl, by omega, rfl, hF.new hn3, hn2.new hn3, hA, by rw [hX, mF_zero]⟩ ?_
  clear hF hX hA hn2 hn3
  rintro m env u ⟨k, A, χ, X, jj, rfl, hk, rfl, hF, hnu, hA, hX⟩
  have hXn : X.nodes.length = n := by
    have := congrArg (fun F => F.nodes.length) hX
    simp only [FabX.pure, List.length_map] at this
    rw [this]
    show (List.replicate (n - k) (n0 n) ++ List.replicate k (failN (n0 n))).length = n
    simp
    omega
  rw [bodegalaw9_PaxosMinority_loop1_body]
  refine bif_dec (fun hp => ?_) (fun hp => ?_)
  · rw [w64 (x := (n : Int) - 1) (by omega) (by omega), w64 (x := (n : Int) - 1 - k) (by omega) (by omega)]
    have e1 : (n : Int) - 1 - k = ((n - 1 - k : Nat) : Int) := by omega
    rw [e1]
    obtain ⟨x, hx⟩ : ∃ x, X.nodes[n - 1 - k]? = some x := ⟨_, List.getElem?_eq_getElem (by omega)⟩
    refine at_call (Node_some hF hx) ?_
    rintro v u1 ⟨rfl, rfl⟩
    refine ⟨_, rfl, ?_⟩
    refine at_call (Fail_f hF hx) ?_
    rintro v u2 ⟨rfl, hp2⟩
    obtain ⟨A', χ', X', hF', hn', hA', hX', _⟩ := mine_op hF hnu hA hp2
    refine ⟨rfl, ?_⟩
    rw [w64 (by omega) (by omega)]
    exact ⟨d - (k + 1), by omega, k + 1, A', χ', X', _, rfl, by omega, rfl, hF', hn', hA', by rw [hX', hX, mF_step (by omega)]⟩
  have hkd : k = d := by omega
  subst hkd
  rw [bodegalaw9_PaxosMinority_aft1_vc]
  have hfine : Fine X.pure := by rw [hX]; exact Fine.mF hn5 (by omega) k hdn
  have htx := mTalk_tx A u n r
  rw [← mTalk_val]
  refine at_call (Alone_c hF hfine htx) ?_
  rintro v u1 hp1
  obtain ⟨A', χ', X', hF', hn', hA', hX', t', ga', gc', ht', rfl, _⟩ := mine_op hF hnu hA hp1
  rw [hX] at hX' ht'
  obtain ⟨F2, t2, hal, hov, hres⟩ := mRun (d := k) hn5 hdn hr
  rw [hal] at hX' ht'
  have htt : t2 = t' := by simpa using ht'
  subst htt
  dsimp only at hX'
  refine ⟨t2.kind, t2.client, t2.job.nodes, t2.job.number, t2.job.client, t2.job.round, t2.job.value, ga', t2.got.length, gc', t2.over, t2.bad, t2.code, t2.value, rfl, ?_⟩
  refine box_k (vs := t2.cells ga' gc') rfl (Talk.single _ _ _) fun b1 u3 hb1 hz3 hn3 => ?_
  have hF3 := hF'.new hn3
  rw [w64 (x := (n : Int) - k) (by omega) (by omega), Int.tdiv_eq_ediv_of_nonneg (by omega), w64 (x := (n : Int) / 2) (by omega) (by omega), w64 (x := (n : Int) / 2 + 1) (by omega) (by omega)]
  refine bif_dec (fun hc => ?_) (fun hc => ?_)
  · rw [if_pos hc] at hres
    refine ⟨_, hz3.cell (i := 8) rfl, bif_t hov ⟨_, hz3.cell (i := 10) rfl, bif_t (by rw [hres.1]; rfl) ?_⟩⟩
    refine at_call (Trips_c hF3 0) ?_
    rintro v u4 ⟨rfl, rfl⟩
    exact ⟨_, rfl, by rw [hX', hres.2]; rfl, hn'.new hn3⟩
  · rw [if_neg hc] at hres
    refine ⟨_, hz3.cell (i := 8) rfl, bif_t hov ⟨_, hz3.cell (i := 10) rfl, bif_t (by rw [hres.1]; rfl) ⟨_, hz3.cell (i := 11) rfl, bif_t (by rw [hres.2.1]; rfl) ?_⟩⟩⟩
    refine at_call (Trips_c hF3 0) ?_
    rintro v u4 ⟨rfl, rfl⟩
    exact ⟨_, rfl, by rw [hX', hres.2.2]; rfl, hn'.new hn3⟩
end Go.Proofs.YteaknokogenndaaGreat
