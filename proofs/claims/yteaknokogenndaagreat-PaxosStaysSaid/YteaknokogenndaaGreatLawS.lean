import Derived.Test.YteaknokogenndaaGreatStay
import Derived.Test.YteaknokogenndaaGreatCodeS
/- The law PaxosStays: it returns true at every input. -/
set_option linter.unusedVariables false
namespace Go.Proofs.YteaknokogenndaaGreat
open Go.Eng

/-! ### A fabric of one's own beside a table of flags -/

structure SW (w : World) (fb ub : Nat) (us : List Bool) (F : Fab) (u : World) : Prop where
  ex : ∃ A χ X, FabAt A χ u fb X ∧ X.pure = F ∧ (∀ k, A k → w.heap.size ≤ k) ∧ A ub ∧ χ ub = .imm
  new : New w u
  blk : ∃ T, Blk u ub (us.map Value.bool) T

theorem SW.op {w u u' : World} {fb ub : Nat} {us : List Bool} {F0 F : Fab} (h : SW w fb ub us F0 u) {A : Nat → Prop} {χ : Nat → Tag} {X : FabX} (hF : FabAt A χ u fb X) (hA : ∀ k, A k → w.heap.size ≤ k) (hu : A ub) (hx : χ ub = .imm) {K : (Nat → Prop) → Prop} (p : FPost A χ u fb F u' K) :
    SW w fb ub us F u' := by
  obtain ⟨T, hb⟩ := h.blk
  obtain ⟨A', χ', X', nx, hF', hX', _⟩ := p
  have hlt := Blk.lt hb
  have hx' : χ' ub = .imm := by
    by_cases hc : χ' ub = .imm
    · exact hc
    · exact absurd hx (nx.grow ub hlt hc)
  refine ⟨⟨A', χ', X', hF', hX', fun k hk => ?_, (nx.iff ub).2 (.inr ⟨hlt, hu, hx⟩), hx'⟩, h.new.trans nx.keep (fun k hk hc => ?_), T, Keep.blk nx.keep hb fun hc => hc hx⟩
  · by_cases hlt : k < u.heap.size
    · rcases (nx.iff k).1 hk with hc | hc
      · exact hA k (hF.avoid k (nx.grow k hlt hc))
      · exact hA k hc.2.1
    · have := h.new.size; omega
  · have := hA k (hF.avoid k hc)
    omega

theorem SW.next {w u u' : World} {fb ub : Nat} {us : List Bool} {F : Fab} (h : SW w fb ub us F u) (hn : New u u') : SW w fb ub us F u' := by
  obtain ⟨A, χ, X, hF, hX, hA, hu, hx⟩ := h.ex
  obtain ⟨T, hb⟩ := h.blk
  exact ⟨⟨A, χ, X, hF.new hn, hX, hA, hu, hx⟩, h.new.new hn, T, New.blk hn hb⟩

theorem SW.set {w u : World} {fb ub : Nat} {us : List Bool} {F : Fab} (h : SW w fb ub us F u) (i : Nat) (b : Bool) : SW w fb ub (us.set i b) F (u.setCell ⟨ub, i, none⟩ (.bool b)) := by
  obtain ⟨A, χ, X, hF, hX, hA, hu, hx⟩ := h.ex
  obtain ⟨T, hb⟩ := h.blk
  refine ⟨⟨A, χ, X, hF.other (keep_setCell u ub i _) (fun k hk => by subst hk; exact ⟨hu, hx⟩), hX, hA, hu, hx⟩, h.new.setCell (.inr (hA ub hu)) _, T, ?_⟩
  rw [List.map_set]
  exact Blk.setCell hb _

theorem SW.start {w w2 : World} {fb : Nat} {A : Nat → Prop} {χ : Nat → Tag} {X : FabX} (hF : FabAt A χ w2 fb X) (hn : New w w2) (hA : ∀ k, A k → w.heap.size ≤ k) {w3 : World} {ub : Nat} (hb : ub = w2.heap.size) (us : List Bool) (T : TypeId) (hw : w3 = w2.alloc (.cells (us.map Value.bool).toArray T)) :
    SW w fb ub us X.pure w3 := by
  obtain ⟨h1, h2⟩ := box_new hb hw
  have hsz : ub < w3.heap.size := Blk.lt h1
  refine ⟨⟨_, χ, X, hF.widen h2, rfl, fun k hk => ?_, .inr ⟨by omega, hsz⟩, hF.fresh (by omega)⟩, hn.new h2, T, by simpa using h1⟩
  rcases hk with hk | hk
  · exact hA k hk
  · have := hn.size; omega

theorem Backs.skip {n i : Nat} {V : Option Int} {F : Fab} (h : Backs n i V 0 F) : Backs n (i + 1) V 0 F := ⟨h.base, fun q m hq => by
  obtain ⟨h1, _⟩ := h.boot q m hq
  rw [if_neg (by omega)] at h1 ⊢
  exact ⟨by omega, fun hlt => by omega⟩⟩
theorem okV.skip {i : Nat} {V : Option Int} (h : okV i V) : okV (i + 1) V := fun v hv => by have := h v hv; omega
theorem Fails.le {n i : Nat} {V : Option Int} {k k' : Nat} {F : Fab} (h : Fails n i V k F) (hk : k ≤ k') : Fails n i V k' F := ⟨h.base, h.boot, Nat.le_trans h.down hk⟩

theorem opsW_cut2 {P : Program} {all l : List Oper} {K : List Value → World → Prop} {env : List Value} {w : World} (p n q : Nat) (h : p + n = q) : opsW P all (l.drop p) env K w = opsW P all ((l.drop p).take n) env (fun env w => opsW P all (l.drop q) env K w) w := by
  rw [opsW_cut n, List.drop_drop, h]
theorem seqQ_n {N : List Value → World → Prop} {Q : Exit → List Value → World → Prop} {env : List Value} {w : World} (h : N env w) : seqQ N Q .normal env w := h
theorem X_nodes {X : FabX} {F : Fab} (h : X.pure = F) : X.nodes.length = F.nodes.length := by
  rw [← h]; simp [FabX.pure]
theorem i64_wrap (x : Int) : I64 (IntKind.i64.wrap x) := by
  unfold I64
  rw [IntKind.wrap_i64]
  omega
end Go.Proofs.YteaknokogenndaaGreat
/- The law PaxosStays: one proposer. -/
set_option linter.unusedVariables false
namespace Go.Proofs.YteaknokogenndaaGreat
open Go.Eng

attribute [local irreducible] alone sTalk

set_option maxHeartbeats 2000000 in
theorem stays_tail {w u : World} {fb ub : Nat} {us : List Bool} {F : Fab} {n i c r : Nat} {V : Option Int} (hn : 1 ≤ n ∧ n ≤ 5) (hodd : n % 2 = 1) (hc : c < 6) (hr : r < 20) (hi : i < 20) (hV : okV i V) (hS : SW w fb ub us F u) (hB : Fails n i V (n / 2) F)
    {p0 p1 : Option Addr} {l0 c0 l1 c1 : Nat} {jj : List Value} {Q : Exit → List Value → World → Prop}
    (hQ : ∀ (u' : World) (b : Nat) (code value : Int) (V' : Option Int) (F' : Fab) (jj' : List Value), SW w fb ub us F' u' → okV (i + 1) V' → Backs n (i + 1) V' 0 F' → u'.cell? ⟨b, 10, none⟩ = some (.int .i64 code) → u'.cell? ⟨b, 11, none⟩ = some (.int .u64 value) → ((code ≠ 0 ∧ V' = V) ∨ (code = 0 ∧ V' = some value)) →
      W Tryz.prog (sub (bodyOf Tryz.f5) [1, 1, 1, 1, 1, 1, 1, 0, 1, 0, 0, 1, 0, 0, 1, 1, 1, 1, 1, 1, 1]) (bodegalaw9_PaxosStays_stD p0 l0 c0 p1 l1 c1 n (some ⟨fb, 0, none⟩) (V.getD 0) V.isSome ⟨ub, 0, none⟩ i ⟨b, 0, none⟩ jj') Q u') :
    W Tryz.prog (sub (bodyOf Tryz.f5) [1, 1, 1, 1, 1, 1, 1, 0, 1, 0, 0, 1, 0, 0, 1, 1, 1, 1, 1]) (bodegalaw9_PaxosStays_aft7 p0 l0 c0 p1 l1 c1 n (some ⟨fb, 0, none⟩) (V.getD 0) V.isSome ⟨ub, 0, none⟩ i c r jj) Q u := by
  obtain ⟨A, χ, X, hF, hX, hA, hAu, hχ⟩ := hS.ex
  rw [bodegalaw9_PaxosStays_s7, bodegalaw9_PaxosStays_A]
  rw [w64 (x := (r : Int) + 1) (by omega) (by omega), w64 (x := (i : Int) + 1) (by omega) (by omega), wu64 (x := (i : Int) + 1) (by omega) (by omega), ← sTalk_val]
  refine at_call (Alone_c hF (by rw [hX]; exact hB.base.fine) (sTalk_tx A u hi)) ?_
  rintro v u1 hp1
  have hp0 := hp1
  obtain ⟨A', χ', X', nx, hF', hX', t', ga', gc', ht', rfl, _⟩ := hp1
  have hS1 := hS.op hF hA hAu hχ hp0
  rw [hX] at ht' hS1
  obtain ⟨F2, t2, V', hal, hov, hbad, hres, hV', hB'⟩ := stay_run hn hodd hc hr hi hV hB
  rw [hal] at ht' hS1
  have htt : t2 = t' := by simpa using ht'
  subst htt
  dsimp only at hS1
  refine ⟨t2.kind, t2.client, t2.job.nodes, t2.job.number, t2.job.client, t2.job.round, t2.job.value, ga', t2.got.length, gc', t2.over, t2.bad, t2.code, t2.value, rfl, ?_⟩
  refine box_k (vs := t2.cells ga' gc') rfl (Talk.single _ _ _) fun b1 u3 hb1 hz3 hn3 => ?_
  have hS3 := hS1.next hn3
  refine seqQ_n ?_
  have h8 := hz3.cell (i := 8) rfl
  have h9 := hz3.cell (i := 9) rfl
  have h10 : u3.cell? ⟨b1, 10, none⟩ = some (.int .i64 t2.code) := hz3.cell (i := 10) rfl
  have h11 : u3.cell? ⟨b1, 11, none⟩ = some (.int .u64 t2.value) := hz3.cell (i := 11) rfl
  rw [bodegalaw9_PaxosStays_sBCD, bodegalaw9_PaxosStays_sBC, bodegalaw9_PaxosStays_reg, opsW_cut 7, bodegalaw9_PaxosStays_B0]
  refine ⟨_, h8, bif_f (by rw [hov]; rfl) ⟨_, h9, ?_⟩⟩
  rw [opsW_cut2 7 10 17 rfl, bodegalaw9_PaxosStays_B1]
  refine bif_f hbad ⟨_, h10, ?_⟩
  rcases hres with ⟨hcode, hVV⟩ | ⟨hcode, hval, hVV⟩
  · refine bif_t (by rw [hcode]; rfl) ⟨_, h10, ?_⟩
    rw [opsW_cut2 17 14 31 rfl, bodegalaw9_PaxosStays_B2]
    refine bif_f (by rw [hcode]; rfl) ⟨_, h10, bif_f (by rw [hcode]; rfl) ?_⟩
    rw [bodegalaw9_PaxosStays_B3]
    refine bif_f rfl ⟨_, h10, bif_f (by rw [hcode]; rfl) ?_⟩
    refine seqQ_n ?_
    rw [bodegalaw9_PaxosStays_C]
    refine bif_f rfl (seqQ_n ?_)
    exact hQ u3 b1 _ _ V' F2 _ hS3 hV' hB' h10 h11 (.inl ⟨by omega, hVV⟩)
  · refine bif_f (by rw [hcode]; rfl) ?_
    rw [opsW_cut2 17 14 31 rfl, bodegalaw9_PaxosStays_B2]
    have fin : ∀ (z : Bool) (jj' : List Value), z = false → seqQ (fun env w => W Tryz.prog (sub (bodyOf Tryz.f5) [1, 1, 1, 1, 1, 1, 1, 0, 1, 0, 0, 1, 0, 0, 1, 1, 1, 1, 1, 1, 0, 1]) env (seqQ (fun env w => W Tryz.prog (sub (bodyOf Tryz.f5) [1, 1, 1, 1, 1, 1, 1, 0, 1, 0, 0, 1, 0, 0, 1, 1, 1, 1, 1, 1, 1]) env Q w) Q) w) (seqQ (fun env w => W Tryz.prog (sub (bodyOf Tryz.f5) [1, 1, 1, 1, 1, 1, 1, 0, 1, 0, 0, 1, 0, 0, 1, 1, 1, 1, 1, 1, 1]) env Q w) Q) .normal (bodegalaw9_PaxosStays_stC p0 l0 c0 p1 l1 c1 n (some ⟨fb, 0, none⟩) (V.getD 0) V.isSome ⟨ub, 0, none⟩ i ⟨b1, 0, none⟩ z jj') u3 := by
      rintro z jj' rfl
      refine seqQ_n ?_
      rw [bodegalaw9_PaxosStays_C]
      refine bif_f rfl (seqQ_n ?_)
      exact hQ u3 b1 _ _ V' F2 _ hS3 hV' hB' h10 h11 (.inr ⟨hcode, hVV⟩)
    refine bif_f rfl ⟨_, h10, bif_t (by rw [hcode]; rfl) (bif_b (fun hs => ?_) (fun hs => ?_))⟩
    · refine ⟨_, h11, ?_⟩
      rw [bodegalaw9_PaxosStays_B3]
      have hv : (t2.value != V.getD 0) = false := by
        cases V with
        | none => cases hs
        | some v => rw [hval]; simp
      refine bif_f hv ⟨_, h10, bif_t (by rw [hcode]; rfl) (bif_f (by rw [hs]; rfl) (fin _ _ rfl))⟩
    · rw [bodegalaw9_PaxosStays_B3]
      refine bif_f rfl ⟨_, h10, bif_t (by rw [hcode]; rfl) (bif_t (by rw [hs]; rfl) ⟨_, h11, fin _ _ ?_⟩)⟩
      rw [w64 (x := (i : Int) + 1) (by omega) (by omega), wu64 (x := (i : Int) + 1) (by omega) (by omega), hval]
      cases V with
      | none => simp
      | some v => cases hs
end Go.Proofs.YteaknokogenndaaGreat
/- The law PaxosStays: it returns true at every input. -/
set_option linter.unusedVariables false
namespace Go.Proofs.YteaknokogenndaaGreat
open Go.Eng

attribute [local irreducible] alone sTalk

theorem rd_int {u : World} {a : Option Addr} {xs : List Int} (h : Rd u a (is xs)) {i : Nat} (hi : i < xs.length) : ∃ b o, a = some ⟨b, o, none⟩ := by
  rcases h with h | ⟨b, o, rfl, hc⟩
  · simp [is] at h; subst h; simp at hi
  · exact ⟨b, o, rfl⟩

theorem rd_get {u : World} {b o : Nat} {xs : List Int} (h : Rd u (some ⟨b, o, none⟩) (is xs)) {i : Nat} (hi : i < xs.length) : u.cell? ⟨b, o + (i : Int).toNat * 1, none⟩ = some (.int .i64 xs[i]) := by
  rcases h with h | ⟨b', o', he, hc⟩
  · simp [is] at h; subst h; simp at hi
  · simp at he
    obtain ⟨rfl, rfl⟩ := he
    have := hc i (.int .i64 xs[i]) (by simp [is, hi])
    simpa using this

set_option maxHeartbeats 2000000 in
/-- The law returns true. -/
theorem PaxosStays_c (w : World) {p0 p1 : Option Addr} {c0 c1 : Nat} {rs ds : List Int} {x2 : Int} (hr : Rd w p0 (is rs)) (hd : Rd w p1 (is ds)) (ir : ∀ x ∈ rs, I64 x) (id : ∀ x ∈ ds, I64 x) (i2 : I64 x2) :
    Does 5 [.slice p0 rs.length c0, .slice p1 ds.length c1, .int .i64 x2] w fun v w' => v = .bool true ∧ New w w' := by
  refine does Tryz.func5 ?_
  rw [bodegalaw9_PaxosStays_vc]
  refine at_call (Pick_c _ _ _ i2 (by omega)) ?_
  rintro v w1 ⟨rfl, rfl⟩
  rw [if_neg (by omega)]
  refine ⟨_, rfl, bif_dec (fun hp => ⟨rfl, Keep.refl _ _⟩) (fun hp => ?_)⟩
  have hlen : rs.length ≤ 20 := by omega
  obtain ⟨n, hn⟩ : ∃ n : Nat, 2 * (x2 % 3) + 1 = n := ⟨(2 * (x2 % 3) + 1).toNat, by omega⟩
  have hn5 : 1 ≤ n ∧ n ≤ 5 := by omega
  have hodd : n % 2 = 1 := by omega
  rw [w64 (x := 2 * (x2 % 3)) (by omega) (by omega), w64 (x := 2 * (x2 % 3) + 1) (by omega) (by omega), hn]
  refine at_call (Fresh_c (c := 6) (lines := 98) hn5 (by omega) (by omega)) ?_
  rintro v w2 ⟨fb, A, χ, X, rfl, hF, hn2, hA, hX⟩
  refine ⟨_, _, rfl, bif_f rfl ?_⟩
  refine at_call (awake_c _) ?_
  rintro v w3 ⟨rfl, hn3⟩
  refine ⟨_, rfl, ?_⟩
  rw [bodegalaw9_PaxosStays_aft1_vc]
  refine bif_f rfl ?_
  rw [bodegalaw9_PaxosStays_aft2_vc]
  intro ub w4 hub hw4
  have hS : SW w1 fb ub (List.replicate 120 false) X.pure w4 := SW.start (hF.new hn3) (hn2.new hn3) hA hub (List.replicate 120 false) _ hw4
  rw [hX] at hS
  clear hF hX hA hn2 hn3 hub hw4
  refine loop_rule mix (fun m env u => ∃ (i : Nat) (V : Option Int) (us : List Bool) (F : Fab) (jj : List Value), m = rs.length - i ∧ i ≤ rs.length ∧ env = bodegalaw9_PaxosStays_env1 p0 rs.length c0 p1 ds.length c1 n (some ⟨fb, 0, none⟩) (V.getD 0) V.isSome ⟨ub, 0, none⟩ i jj ∧ SW w1 fb ub us F u ∧ us.length = 120 ∧ okV i V ∧ Backs n i V 0 F) rs.length
    ⟨0, none, List.replicate 120 false, _, _, by omega, by omega, rfl, hS, List.length_replicate, (fun v hv => by cases hv), stay_start hn5⟩ ?_
  clear hS
  rintro m env u ⟨i, V, us, F, jj, rfl, hi, rfl, hS, hus, hV, hB⟩
  rw [bodegalaw9_PaxosStays_loop1_body]
  refine bif_dec (fun hp => ?_) (fun hp => ?_)
  rotate_left
  · rw [bodegalaw9_PaxosStays_aft3_vc]
    exact ⟨rfl, hS.new⟩
  have hil : i < rs.length := by omega
  obtain ⟨b0, o0, rfl⟩ := rd_int hr hil
  have i0 := ir rs[i] (List.getElem_mem hil)
  unfold I64 at i0
  rintro u1 rfl
  refine ⟨fun z => New w1 z, hS.new.drew, idxS_mk (by omega) (by omega) ⟨rs[i], fun z hz => rd_get (Rd.new hz hr) hil, idxS_mk (by omega) (by omega) ⟨rs[i], fun z hz => rd_get (Rd.new hz hr) hil, ?_⟩⟩⟩
  refine at_call (Pick_c _ _ _ i0 (by omega)) ?_
  rintro v u2 ⟨rfl, rfl⟩
  rw [if_neg (by omega)]
  refine ⟨_, rfl, hS.new.drew, ?_⟩
  have htd : -9223372036854775808 ≤ Int.tdiv rs[i] 6 ∧ Int.tdiv rs[i] 6 < 9223372036854775808 := by
    rcases Int.le_total 0 rs[i] with hz | hz
    · rw [Int.tdiv_eq_ediv_of_nonneg hz]; omega
    · have e1 := Int.neg_tdiv (-rs[i]) 6
      rw [Int.neg_neg] at e1
      rw [e1, Int.tdiv_eq_ediv_of_nonneg (by omega)]
      omega
  rw [w64 (x := Int.tdiv rs[i] 6) htd.1 htd.2]
  refine at_call (Pick_c _ _ _ htd (by omega)) ?_
  rintro v u2 ⟨rfl, rfl⟩
  rw [if_neg (by omega)]
  refine ⟨_, rfl, hS.new.drew, ?_⟩
  obtain ⟨c, hc⟩ : ∃ c : Nat, rs[i] % 6 = c := ⟨(rs[i] % 6).toNat, by omega⟩
  obtain ⟨r, hr'⟩ : ∃ r : Nat, Int.tdiv rs[i] 6 % 20 = r := ⟨(Int.tdiv rs[i] 6 % 20).toNat, by omega⟩
  have hc6 : c < 6 := by omega
  have hr20 : r < 20 := by omega
  rw [hc, hr']
  have hS1 := hS.next (new_drew u)
  have hat : 0 + (c : Int).toNat * 20 + (r : Int).toNat * 1 = c * 20 + r := by omega
  have hlt : c * 20 + r < us.length := by omega
  obtain ⟨T, hblk⟩ := hS1.blk
  have hcell := Blk.cell hblk (i := c * 20 + r) (v := .bool us[c * 20 + r]) (by simp [hlt])
  refine idxA_mk (by omega) (by omega) (idxA_mk (by omega) (by omega) ⟨_, by rw [hat]; exact hcell, bif_b (fun hb => ?_) (fun hb => ?_)⟩)
  · rw [w64 (by omega) (by omega)]
    exact ⟨rs.length - (i + 1), by omega, i + 1, V, us, F, _, rfl, by omega, rfl, hS1, hus, hV.skip, hB.skip⟩
  refine idxA_mk (by omega) (by omega) (idxA_mk (by omega) (by omega) ⟨⟨_, by rw [hat]; exact hcell⟩, by rw [hat]; exact Blk.frozen hblk, ?_⟩)
  rintro u3 hu3
  rw [hat] at hu3
  have hS3 := hS1.set (c * 20 + r) true
  rw [← hu3] at hS3
  clear hS1 hblk hcell hu3 hb hS T
  have hus3 : (us.set (c * 20 + r) true).length = 120 := by rw [List.length_set]; exact hus
  generalize us.set (c * 20 + r) true = us3 at hS3 hus3
  refine loop_rule mix (fun m env u => ∃ (k : Nat) (F : Fab) (jj : List Value), m = n - k ∧ k ≤ n ∧ env = bodegalaw9_PaxosStays_env2 (some ⟨b0, o0, none⟩) rs.length c0 p1 ds.length c1 n (some ⟨fb, 0, none⟩) (V.getD 0) V.isSome ⟨ub, 0, none⟩ i c r k jj ∧ SW w1 fb ub us3 F u ∧ Backs n i V k F) n
    ⟨0, F, _, by omega, by omega, rfl, hS3, hB⟩ ?_
  clear hS3 hB
  rintro m env u4 ⟨k, F4, jj4, rfl, hk, rfl, hS, hB⟩
  rw [bodegalaw9_PaxosStays_loop2_body]
  obtain ⟨A, χ, X, hF, hX, hA, hAu, hχ⟩ := hS.ex
  have hXn := X_nodes hX
  rw [hB.base.len] at hXn
  refine bif_dec (fun hp => ?_) (fun hp => ?_)
  · have hkn : k < n := by omega
    obtain ⟨x, hx⟩ : ∃ x, X.nodes[k]? = some x := ⟨_, List.getElem?_eq_getElem (by omega)⟩
    refine at_call (Node_some hF hx) ?_
    rintro v u1 ⟨rfl, rfl⟩
    refine ⟨_, rfl, ?_⟩
    refine at_call (Back_f hF hx) ?_
    rintro v u2 ⟨rfl, hp2⟩
    have hS' := hS.op hF hA hAu hχ hp2
    refine ⟨_, rfl, ?_⟩
    rw [w64 (by omega) (by omega)]
    rw [hX] at hS'
    exact ⟨n - (k + 1), by omega, k + 1, _, _, rfl, by omega, rfl, hS', hB.step hkn (by omega)⟩
  have hkn : k = n := by omega
  subst hkn
  clear hF hX hA hAu hχ hXn
  rw [bodegalaw9_PaxosStays_aft4_vc]
  refine loop_rule mix (fun m env u => ∃ (q : Nat) (F : Fab) (jj : List Value), m = k / 2 - q ∧ q ≤ k / 2 ∧ env = bodegalaw9_PaxosStays_env3 (some ⟨b0, o0, none⟩) rs.length c0 p1 ds.length c1 k (some ⟨fb, 0, none⟩) (V.getD 0) V.isSome ⟨ub, 0, none⟩ i c r q jj ∧ SW w1 fb ub us3 F u ∧ Fails k i V q F) (k / 2)
    ⟨0, F4, _, by omega, by omega, rfl, hS, hB.fails⟩ ?_
  clear hS hB
  rintro m env u5 ⟨q, F5, jj5, rfl, hq, rfl, hS, hB⟩
  have hi20 : i < 20 := by omega
  rw [bodegalaw9_PaxosStays_loop3_body, Int.tdiv_eq_ediv_of_nonneg (by omega), w64 (x := (k : Int) / 2) (by omega) (by omega)]
  refine bif_dec (fun hp => ?_) (fun hp => ?_)
  rotate_left
  · rw [bodegalaw9_PaxosStays_aft5_vc]
    refine bif_f rfl ?_
    refine stays_tail hn5 hodd hc6 hr20 hi20 hV hS (hB.le hq) fun u' b code value V' F' jj' h1 h2 h3 h4 h5 h6 => ?_
    rw [bodegalaw9_PaxosStays_D]
    rw [w64 (by omega) (by omega)]
    refine ⟨_, h4, bif_beq (fun hz => ⟨_, h5, ?_⟩) (fun hz => ?_)⟩
    · rcases h6 with ⟨h6, _⟩ | ⟨_, rfl⟩
      · exact absurd hz h6
      · exact ⟨rs.length - (i + 1), by omega, i + 1, some value, us3, F', _, rfl, by omega, rfl, h1, hus3, h2, h3⟩
    · rcases h6 with ⟨_, rfl⟩ | ⟨h6, _⟩
      · exact ⟨rs.length - (i + 1), by omega, i + 1, _, us3, F', _, rfl, by omega, rfl, h1, hus3, h2, h3⟩
      · exact absurd h6 hz
  rw [bodegalaw9_PaxosStays_aft5_vc]
  refine bif_dec (fun hp2 => ?_) (fun hp2 => ?_)
  rotate_left
  · refine stays_tail hn5 hodd hc6 hr20 hi20 hV hS (hB.le hq) fun u' b code value V' F' jj' h1 h2 h3 h4 h5 h6 => ?_
    rw [bodegalaw9_PaxosStays_D]
    rw [w64 (by omega) (by omega)]
    refine ⟨_, h4, bif_beq (fun hz => ⟨_, h5, ?_⟩) (fun hz => ?_)⟩
    · rcases h6 with ⟨h6, _⟩ | ⟨_, rfl⟩
      · exact absurd hz h6
      · exact ⟨rs.length - (i + 1), by omega, i + 1, some value, us3, F', _, rfl, by omega, rfl, h1, hus3, h2, h3⟩
    · rcases h6 with ⟨_, rfl⟩ | ⟨h6, _⟩
      · exact ⟨rs.length - (i + 1), by omega, i + 1, _, us3, F', _, rfl, by omega, rfl, h1, hus3, h2, h3⟩
      · exact absurd h6 hz
  rw [bodegalaw9_PaxosStays_aft6_vc]
  have hid : i < ds.length := by omega
  obtain ⟨b1, o1, rfl⟩ := rd_int hd hid
  have i1 := id ds[i] (List.getElem_mem hid)
  rintro u6 rfl
  have hS6 := hS.next (new_drew u5)
  refine ⟨fun z => New w1 z, hS6.new, idxS_mk (by omega) (by omega) ⟨ds[i], fun z hz => rd_get (Rd.new hz hd) hid, idxS_mk (by omega) (by omega) ⟨ds[i], fun z hz => rd_get (Rd.new hz hd) hid, ?_⟩⟩⟩
  refine at_call (Pick_c _ _ _ i1 (by omega)) ?_
  rintro v u2 ⟨rfl, rfl⟩
  refine ⟨_, rfl, hS6.new, ?_⟩
  refine at_call (Pick_c _ _ _ (i64_wrap _) (by omega)) ?_
  rintro v u2 ⟨rfl, rfl⟩
  refine ⟨_, rfl, hS6.new, ?_⟩
  rw [if_neg (by omega : ¬ (k : Int) < 1)]
  generalize IntKind.i64.wrap (ds[i] + _) = y
  have hy : 0 ≤ y % (k : Int) ∧ y % (k : Int) < k := ⟨Int.emod_nonneg _ (by omega), Int.emod_lt_of_pos _ (by omega)⟩
  obtain ⟨y', hy'⟩ := Int.eq_ofNat_of_zero_le hy.1
  rw [hy'] at hy ⊢
  obtain ⟨A, χ, X, hF, hX, hA, hAu, hχ⟩ := hS6.ex
  have hXn := X_nodes hX
  rw [hB.base.len] at hXn
  obtain ⟨x, hx⟩ : ∃ x, X.nodes[y']? = some x := ⟨_, List.getElem?_eq_getElem (by omega)⟩
  refine at_call (Node_some hF hx) ?_
  rintro v u1 ⟨rfl, rfl⟩
  refine ⟨_, rfl, hS6.new, ?_⟩
  refine at_call (Fail_f hF hx) ?_
  rintro v u2 ⟨rfl, hp2⟩
  have hS' := hS6.op hF hA hAu hχ hp2
  refine ⟨rfl, hS'.new, ?_⟩
  rw [w64 (by omega) (by omega)]
  rw [hX] at hS'
  exact ⟨k / 2 - (q + 1), by omega, q + 1, _, _, rfl, by omega, rfl, hS', hB.step y'⟩
end Go.Proofs.YteaknokogenndaaGreat
