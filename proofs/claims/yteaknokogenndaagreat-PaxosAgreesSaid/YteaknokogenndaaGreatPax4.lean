/- Package paxos: replacing the words of acceptors. -/
import Derived.Test.YteaknokogenndaaGreatPax3
set_option linter.unusedVariables false
namespace Go.Proofs.YteaknokogenndaaGreat
open Go.Eng

/-- A function value that computes nx, as long as only the proposer and its conversation change. -/
structure NextFn (pb tb : Nat) (j : Job) (b : Int) (fv : Value) (nx : Int → Int) (u : World) : Prop where
  call : ∀ (z : World) (g' x : Int) (Q : Ending → World → Prop), Keep (fun k => k = pb ∨ k = tb) u z → Blk z pb (prc j tb b g') TPr → U64 x → (∀ z', New z z' → Q (.returned (.int .u64 (nx x))) z') → callF Tryz.prog fv #[.int .u64 x] z Q
  u64 : ∀ x, U64 x → U64 (nx x)

theorem batch_ask {G : List (List Done)} {vs ws : List Verb} (h : (batch G vs).ask = some ws) : ws = vs := by
  unfold batch at h
  split at h
  · cases h
  · cases G with
    | nil => simp at h; exact h.symm
    | cons d G' =>
      simp only at h
      split at h <;> cases h

theorem off_of {M : Nat → Prop} {w : World} {a : Option Addr} {xs : List Value} (h : Rd w a xs) (ho : ∀ k, isB a k → ¬ M k) : xs = [] ∨ Off M a := by
  rcases h with h | ⟨b, o, rfl, _⟩
  · exact .inl h
  · exact .inr (ho b ⟨o, rfl⟩)

theorem swapAsk_snoc {j : Job} {nx : Int → Int} {l : List Acc} {i : Nat} (h : i < l.length) : swapAsk j nx (l.take (i + 1)) = swapAsk j nx (l.take i) ++ [casVerb l[i].node j.at_ l[i].word (nx l[i].word)] := by
  unfold swapAsk
  rw [List.take_succ_eq_append_getElem h, List.map_append]
  rfl

set_option maxHeartbeats 2000000 in
theorem swap_c {A : Nat → Prop} {w0 u : World} {pb tb : Nat} {j : Job} {b g : Int} {T : TkX} {G : List (List Done)} {wr : Bool} (h : PW A w0 u pb tb j b g T G wr) (hT : T.al = 0) {l : List Acc} {la : Option Addr} {lc : Nat} (hla : Rd u la (arows l).flatten) (hlo : ∀ k, isB la k → k ≠ pb ∧ k ≠ tb)
    (hlw : ∀ x ∈ l, U64 x.word) (hll : l.length ≤ 1000) {fv : Value} {nx : Int → Int} (hf : NextFn pb tb j b fv nx u) :
    Does 103 [ptr pb, .slice la l.length lc, fv] u fun v u' => ∃ (a : Option Addr) (cap : Nat) (T' : TkX), v = .tuple #[.int .i64 (swapGo nx l (batch G (swapAsk j nx l)).done 0 [] g).1, .slice a (swapGo nx l (batch G (swapAsk j nx l)).done 0 [] g).2.1.length cap, .bool (batch G (swapAsk j nx l)).ok] ∧
      PW A w0 u' pb tb j b (swapGo nx l (batch G (swapAsk j nx l)).done 0 [] g).2.2 T' (batch G (swapAsk j nx l)).got (wr || (batch G (swapAsk j nx l)).wrong) ∧ Owns u' TAc 2 a (swapGo nx l (batch G (swapAsk j nx l)).done 0 [] g).2.1.length cap (arows (swapGo nx l (batch G (swapAsk j nx l)).done 0 [] g).2.1).flatten ∧
      (∀ k, isB a k → u.heap.size ≤ k) ∧ AskIs u.heap.size u' T' (batch G (swapAsk j nx l)).ask ∧ Keep (fun k => k = pb ∨ k = tb) u u' ∧ (∀ x ∈ (swapGo nx l (batch G (swapAsk j nx l)).done 0 [] g).2.1, U64 x.word) := by
  refine does Tryz.func103 ?_
  rw [ptr, paxos_proposer_swap_vc]
  have hpbl : pb < u.heap.size := h.pr.lt
  have htbl : tb < u.heap.size := h.tk.lt
  refine loop_rule mix (fun m env z => ∃ (i : Nat) (aa : Option Addr) (ac : Nat) (jj : List Value), m = l.length - i ∧ i ≤ l.length ∧ env = paxos_proposer_swap_env1 ⟨pb, 0, none⟩ la l.length lc fv 0 none 0 0 aa i ac la l.length lc l.length i jj ∧ New u z ∧ Owns z TV 9 aa i ac (vrows ((swapAsk j nx (l.take i)).map Verb.v)).flatten ∧ (∀ k, isB aa k → u.heap.size ≤ k)) l.length
    ⟨0, none, 0, _, rfl, by omega, rfl, Keep.refl _ _, Owns.nil _ _ _, fun k hk => by obtain ⟨o, ho⟩ := hk; cases ho⟩ ?_
  rintro m env z ⟨i, aa, ac, jj, rfl, hi, rfl, hn, ho, hfr⟩
  rw [paxos_proposer_swap_loop1_body]
  refine bif_dec (fun hp => ?_) (fun hp => ?_)
  · have hlt : i < l.length := by omega
    have hg : l[i]? = some l[i] := List.getElem?_eq_getElem hlt
    have hwu := hlw _ (List.mem_of_getElem? hg)
    obtain ⟨ba, oa, rfl, hca, hcell⟩ := (hla.new hn).row (arows_len l) (by omega) (arows_get hg)
    refine idxS_mk (by omega) (by omega) ?_
    refine ⟨l[i].node, l[i].word, by simpa [Acc.cells] using hca, ?_⟩
    refine box_k (vs := Acc.cells l[i]) rfl (Acc.single _) fun b1 z2 hb1 hz2 hn2 => ?_
    rintro z3 hz3
    have hn3 : New z2 z3 := by rw [hz3]; exact new_drew _
    have hb13 := New.blk hn3 hz2
    have haal : ∀ k, isB aa k → k < z.heap.size := fun k hk => ho.lt hk
    have hb1n : ¬ isB aa b1 := fun hb => by have := haal _ hb; omega
    have hpb3 := New.blk ((hn.new hn2).new hn3) h.pr
    have hpbn : ¬ isB aa pb := fun hb => by have := hfr _ hb; omega
    refine ⟨fun y => Keep (isB aa) z3 y, Keep.refl _ _, _, fun y hy => (hy.blk hb13 hb1n).cell rfl, _, fun y hy => (hy.blk hpb3 hpbn).cell (i := 1) rfl, _, fun y hy => (hy.blk hb13 hb1n).cell rfl, _, fun y hy => (hy.blk hb13 hb1n).cell rfl, ?_⟩
    refine at_call (Consensus_c _ _) ?_
    rintro v z4 ⟨rfl, hn4⟩
    refine ⟨_, rfl, Keep.of_new hn4, ?_⟩
    have hnu4 : New u z4 := ((hn.new hn2).new hn3).new hn4
    refine hf.call z4 g _ _ (Keep.of_new hnu4) (New.blk hnu4 h.pr) hwu ?_
    intro z5 hn5
    refine ⟨_, rfl, Keep.of_new (hn4.new hn5), ?_⟩
    intro b2 z6 hb2 hz6
    have hz6n : New z5 z6 := by rw [hz6]; exact new_alloc _ _
    refine ⟨Keep.of_new ((hn4.new hn5).new hz6n), ?_⟩
    have hn35 : New z z5 := ((hn2.new hn3).new hn4).new hn5
    have hpush := pushV_k (v := (casVerb l[i].node j.at_ l[i].word (nx l[i].word)).v) (Owns.new hn35 ho) (by omega) (K := fun b' ap apl apc w3 => ∃ cap', ap = ap ∧ apl = i + 1 ∧ Owns w3 TV 9 ap (i + 1) apc ((vrows ((swapAsk j nx (l.take i)).map Verb.v)).flatten ++ (casVerb l[i].node j.at_ l[i].word (nx l[i].word)).v.cells) ∧ Keep (isB aa) z5 w3 ∧ (∀ k, isB ap k → isB aa k ∨ z5.heap.size ≤ k) ∧ cap' = apc)
      (fun b' ap cap' w3 _ h2 h3 h4 => ⟨cap', rfl, rfl, h2, h3, h4, rfl⟩) b2 z6 hb2 hz6
    obtain ⟨ap, apl, apc, z7, hrun, _, _, hapl, ho7, hk7, hap, _⟩ := hpush
    subst hapl
    refine ⟨ap, i + 1, apc, z7, hrun, (Keep.of_new (hn4.new hn5)).trans hk7 fun _ _ e => e, ?_⟩
    rw [w64 (by omega) (by omega)]
    refine ⟨l.length - (i + 1), by omega, i + 1, ap, apc, _, rfl, by omega, rfl, new_fresh (hnu4.new hn5) hk7 hfr, ?_, ?_⟩
    · rw [swapAsk_snoc hlt, vrows_snoc]
      exact ho7
    · intro k hk
      rcases hap k hk with h1 | h1
      · exact hfr k h1
      · have := (hnu4.new hn5).size
        omega
  · have hin : i = l.length := by omega
    subst hin
    rw [List.take_of_length_le (Nat.le_refl _)] at ho
    have hal : (swapAsk j nx l).length = l.length := by simp [swapAsk]
    rw [paxos_proposer_swap_aft1_vc]
    have hz := h.new' hn
    refine ⟨_, hz.pr.cell (i := 5) rfl, ?_⟩
    have hrd : Rd z aa (vrows ((swapAsk j nx l).map Verb.v)).flatten := ho.rd
    clear ho hp hi
    have hbl := batch_len (G := G) (vs := swapAsk j nx l)
    have hbk : ∀ ws, (batch G (swapAsk j nx l)).ask = some ws → ws = swapAsk j nx l := fun ws => batch_ask
    generalize hr : batch G (swapAsk j nx l) = r
    have hB := Batch_c hz.new hz.lt hz.tk hz.got hz.gl hz.gc (vs := swapAsk j nx l) (ac := ac) hrd (by omega)
    rw [hal, hr] at hB
    rw [hr, hal] at hbl
    rw [hr] at hbk
    refine at_call hB ?_
    rintro v z1 ⟨T', da, dc, raw, rfl, htk, hk1, hda, hds, hgot, hgl, hgc, hwr, hak⟩
    refine ⟨_, _, _, _, rfl, ?_⟩
    have hn0 : New w0 z1 := hz.new.trans hk1 fun k hlt e => by have := h.lt; omega
    have hpr1 : Blk z1 pb (prc j tb b g) TPr := hk1.blk hz.pr (fun e => h.ne e)
    have hku : Keep (fun k => k = pb ∨ k = tb) u z1 := (Keep.of_new hn).trans hk1 fun _ _ e => .inr e
    have hask1 : AskIs u.heap.size z1 T' r.ask := by
      cases hra : r.ask with
      | none =>
        rw [hra] at hak
        exact hak.2.1.trans hT
      | some vs =>
        rw [hra] at hak
        have hvs := hbk vs hra
        subst hvs
        refine ⟨by rw [hak.2.1, hal], ?_, fun k hk => hfr k (hak.1 ▸ hk)⟩
        rw [hak.1]
        refine hrd.keep hk1 (off_of hrd fun k hk e => ?_)
        have := hfr k hk
        omega
    have hdl : raw.length = r.done.length := hds.1
    refine loop_rule mix (fun m env y => ∃ (i n : Nat) (a : Option Addr) (cap : Nat) (acc : List Acc) (g' : Int) (jj : List Value), m = r.done.length - i ∧ i ≤ r.done.length ∧ env = paxos_proposer_swap_env2 ⟨pb, 0, none⟩ la l.length lc fv n a acc.length cap r.ok da raw.length dc raw.length i jj ∧
        New w0 y ∧ Keep (fun k => k = pb) z1 y ∧ Blk y pb (prc j tb b g') TPr ∧ U64 g' ∧ Owns y TAc 2 a acc.length cap (arows acc).flatten ∧ (∀ k, isB a k → z1.heap.size ≤ k) ∧ swapGo nx (l.drop i) (r.done.drop i) n acc g' = swapGo nx l r.done 0 [] g ∧ acc.length ≤ i ∧ n ≤ i ∧ (∀ x ∈ acc, U64 x.word)) r.done.length
      ⟨0, 0, none, 0, [], g, _, rfl, by omega, rfl, hn0, Keep.refl _ _, hpr1, h.g64, Owns.nil _ _ _, (fun k hk => by obtain ⟨o, ho⟩ := hk; cases ho), rfl, by simp, by omega, by simp⟩ ?_
    rintro m env y ⟨i, n, a, cap, acc, g', jj, rfl, hi, rfl, hny, hky, hpr, hg', hoa, hfa, hgo, hacc, hni, hall⟩
    rw [paxos_proposer_swap_loop2_body]
    refine bif_dec (fun hp => ?_) (fun hp => ?_)
    · have hlt : i < r.done.length := by omega
      have hltl : i < l.length := by omega
      have hx : r.done[i]? = some r.done[i] := List.getElem?_eq_getElem hlt
      have hv : raw[i]? = some raw[i] := List.getElem?_eq_getElem (by omega)
      have hgl' : l[i]? = some l[i] := List.getElem?_eq_getElem hltl
      have hda1 := hds.2 i _ _ hv hx
      obtain ⟨ba, oa, rfl, hca, hcell⟩ := (hda.new hny).row (drows_len raw) (by omega) (drows_get hv)
      rw [List.drop_eq_getElem_cons hlt, List.drop_eq_getElem_cons hltl, swapGo] at hgo
      refine idxS_mk (by omega) (by omega) ?_
      refine ⟨_, _, _, _, by simpa [DoneV.cells] using hca, ?_⟩
      refine box_k (vs := DoneV.cells raw[i]) rfl (DoneV.single _) fun b1 y2 hb1 hz2 hn2 => ?_
      refine ⟨_, hz2.cell rfl, bif_bne (fun hc => ?_) (fun hc => ?_)⟩
      · have hcd : r.done[i].code ≠ 0 := by rw [← hda1.code]; exact hc
        rw [if_pos hcd] at hgo
        rw [w64 (by omega) (by omega)]
        exact ⟨r.done.length - (i + 1), by omega, i + 1, n, a, cap, acc, g', _, rfl, by omega, rfl, hny.new hn2, hky.new hn2, New.blk hn2 hpr, hg', Owns.new hn2 hoa, hfa, hgo, by omega, by omega, hall⟩
      · have hcd : ¬ r.done[i].code ≠ 0 := by rw [← hda1.code]; exact fun h => h hc
        rw [if_neg hcd] at hgo
        refine ⟨_, _, _, _, dbox_ret hz2, ?_⟩
        have hdy2 : DoneAt A y2 raw[i] r.done[i] := hda1.keep (Keep.of_new (hny.new hn2)) (fun _ _ h => h)
        refine at_call (TWord_c hdy2) ?_
        rintro v y3 ⟨rfl, hn3⟩
        have hw64 := wordOf_u64 hda1
        have hn23 : New y y3 := hn2.new hn3
        have hkuy : Keep (fun k => k = pb ∨ k = tb) u y3 := (hku.trans hky fun _ _ e => .inl e).new hn23
        have hlay : ∀ y', Keep (fun k => k = pb ∨ k = tb) u y' → Rd y' la (arows l).flatten := fun y' hy' => hla.keep hy' (off_of hla fun k hk e => by have := hlo k hk; rcases e with e | e <;> omega)
        refine ⟨_, rfl, ?_⟩
        obtain ⟨bl, ol, hble, hcal, hcl⟩ := (hlay y3 hkuy).row (arows_len l) (by omega) (arows_get hgl')
        rw [hble]
        refine idxS_mk (by omega) (by omega) ?_
        refine ⟨_, by simpa using hcl 1 _ rfl, bif_bne (fun hne => ?_) (fun hne => ?_)⟩
        · rw [if_pos hne] at hgo
          refine at_call (met_c (New.blk hn23 hpr) hw64) ?_
          rintro v y7 ⟨rfl, hpr7, hk7⟩
          refine ⟨rfl, ?_⟩
          rw [w64 (by omega) (by omega), w64 (by omega) (by omega)]
          have hpbz : pb < z1.heap.size := hpr1.lt
          refine ⟨r.done.length - (i + 1), by omega, i + 1, n + 1, a, cap, acc, _, _, rfl, by omega, rfl, ?_, ?_, hpr7, max_u64 hg' hw64, ?_, hfa, hgo, by omega, by omega, hall⟩
          · exact (hny.new hn23).trans hk7 fun k hlt e => by have := h.lp; omega
          · exact (hky.new hn23).trans hk7 fun _ _ e => e
          · refine (Owns.new hn23 hoa).keep hk7 fun k hk e => ?_
            have := hfa k hk
            omega
        · have hne' : ¬ wordOf r.done[i] ≠ l[i].word := fun h => h hne
          rw [if_neg hne'] at hgo
          rintro y5 hy5
          have hn5 : New y3 y5 := by rw [hy5]; exact new_drew _
          have hal5 : ∀ k, isB a k → k < y.heap.size := fun k hk => hoa.lt hk
          have hpbz : pb < z1.heap.size := hpr1.lt
          have hku5 := hkuy.new hn5
          have hblu : bl < u.heap.size := by
            rw [hble] at hla
            refine hla.lt ?_
            intro he
            have h3 := flat_row (arows_len l) (arows_get hgl')
            rw [he] at h3
            simp [Acc.cells] at h3
          have hbla : ¬ isB a bl := fun hb => by have h1 := hfa _ hb; have h2 := hku.size; omega
          refine ⟨fun q => Keep (isB a) y5 q, Keep.refl _ _, idxS_mk (by omega) (by omega) ?_⟩
          have hcell5 : ∀ q, Keep (isB a) y5 q → q.cell? ⟨bl, ol + Int.toNat i * 2, none⟩ = some (.int .i64 l[i].node) := by
            intro q hq
            have hc5 := ((hlay y5 hku5).keep hq (by rw [hble]; exact .inr hbla)).row (arows_len l) (by omega) (arows_get hgl')
            obtain ⟨b', o', he', _, hc'⟩ := hc5
            rw [hble] at he'
            simp at he'
            rw [he'.1, he'.2]
            simpa using hc' 0 _ rfl
          refine ⟨_, hcell5, ?_⟩
          refine hf.call y5 g' _ _ hku5 (New.blk (hn23.new hn5) hpr) hw64 ?_
          intro y6 hn6
          refine ⟨_, rfl, Keep.of_new hn6, ?_⟩
          intro b2 y7 hb2 hy7
          have hn7 : New y6 y7 := by rw [hy7]; exact new_alloc _ _
          refine ⟨Keep.of_new (hn6.new hn7), ?_⟩
          have hn26 : New y y6 := (hn23.new hn5).new hn6
          have hpush := pushA_k (v := ⟨l[i].node, nx (wordOf r.done[i])⟩) (Owns.new hn26 hoa) (by omega) (K := fun b' ap apl apc w3 => apl = acc.length + 1 ∧ Owns w3 TAc 2 ap (acc.length + 1) apc ((arows acc).flatten ++ Acc.cells ⟨l[i].node, nx (wordOf r.done[i])⟩) ∧ Keep (isB a) y6 w3 ∧ (∀ k, isB ap k → isB a k ∨ y6.heap.size ≤ k))
            (fun b' ap cap' w3 _ h2 h3 h4 => ⟨rfl, h2, h3, h4⟩) b2 y7 hb2 hy7
          obtain ⟨ap, apl, apc, y8, hrun, hapl, ho8, hk8, hap⟩ := hpush
          subst hapl
          refine ⟨ap, acc.length + 1, apc, y8, hrun, (Keep.of_new hn6).trans hk8 fun _ _ e => e, ?_⟩
          rw [w64 (by omega) (by omega), w64 (by omega) (by omega)]
          have hk28 : Keep (isB a) y y8 := (Keep.of_new hn26).trans hk8 fun _ _ e => e
          have hz1w : w0.heap.size ≤ z1.heap.size := hn0.size
          refine ⟨r.done.length - (i + 1), by omega, i + 1, n + 1, ap, apc, acc ++ [⟨l[i].node, nx (wordOf r.done[i])⟩], g', _, rfl, by omega, by simp; rfl, ?_, ?_, ?_, hg', ?_, ?_, hgo, by simp; omega, by omega, ?_⟩
          · exact hny.trans hk28 fun k hlt hb => by have := hfa k hb; omega
          · refine hky.trans hk28 fun k hlt hb => ?_
            have := hfa k hb
            omega
          · exact hk28.blk hpr (fun hb => by have := hfa _ hb; omega)
          · rw [arows_snoc, List.length_append]
            exact ho8
          · intro k hk
            rcases hap k hk with h1 | h1
            · exact hfa k h1
            · have h2 := hn26.size
              have h3 := hky.size
              omega
          · intro x hx
            rcases List.mem_append.1 hx with h1 | h1
            · exact hall x h1
            · simp at h1
              rw [h1]
              exact hf.u64 _ hw64
    · have hin : i = r.done.length := by omega
      subst hin
      rw [paxos_proposer_swap_aft2_vc]
      rw [List.drop_of_length_le (Nat.le_refl r.done.length)] at hgo
      have hgo' : (n, acc, g') = swapGo nx l r.done 0 [] g := by
        rw [← hgo]
        cases l.drop r.done.length <;> rfl
      have hpbz : pb < z1.heap.size := hpr1.lt
      rw [← hgo']
      have hzu : u.heap.size ≤ z1.heap.size := hku.size
      refine ⟨a, cap, T', rfl, ⟨hny, h.lp, h.lt, hpr, hky.blk htk (fun e => h.ne e.symm), hgot, hgl, hgc, hg', by rw [hwr, h.wrong]⟩, hoa, fun k hk => Nat.le_trans hzu (hfa k hk), hask1.keep hky (fun k e => by omega), hku.trans hky fun _ _ e => .inl e, hall⟩
end Go.Proofs.YteaknokogenndaaGreat
