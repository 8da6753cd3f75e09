/- Package paxos: reading the words of all nodes, replacing them. -/
import Derived.Test.YteaknokogenndaaGreatPax2
set_option linter.unusedVariables false
namespace Go.Proofs.YteaknokogenndaaGreat
open Go.Eng

/-- A box is appended to a slice that owns its row. -/
theorem push_k {S e : TypeId} {i : TypeInfo} {z : Value} (ht : Tryz.prog.underlying S = some (.slice e)) (hi : Tryz.prog.info? e = some i) (hz : i.zero = some z) (hzs : z.cells.size = i.size) (hsz : 0 < i.size)
    {u : World} {a : Option Addr} {n cap : Nat} {xs : List Value} (ho : Owns u e i.size a n cap xs) {vs : List Value} (hl : vs.length = i.size) (hs : ∀ v ∈ vs, single v = true) (hb1 : n ≤ 1000000000) (hb2 : i.bytes ≤ 1000) {K : Nat → Option Addr → Nat → Nat → World → Prop}
    (hk : ∀ b ap cap' w3, b = u.heap.size → Owns w3 e i.size ap (n + 1) cap' (xs ++ vs) → Keep (isB a) u w3 → (∀ k, isB ap k → isB a k ∨ u.heap.size ≤ k) → K b ap (n + 1) cap' w3) :
    ∀ b1 w2, b1 = u.heap.size → w2 = u.alloc (.cells vs.toArray e) → ∃ (ap : Option Addr) (ap_len ap_cap : Nat), ∃ w3, (Builtin.append_ #[S, S] S #[(.slice a n cap), (.slice (some ⟨b1, 0, none⟩) 1 1)]).run Tryz.prog w2 = .ok (.slice ap ap_len ap_cap) w3 ∧ K b1 ap ap_len ap_cap w3 := by
  rintro b1 w2 hb hw
  obtain ⟨hz2, hn2⟩ := box_new hb hw
  have hbb : (n + 1) * i.bytes ≤ 1000000001 * 1000 := Nat.mul_le_mul (by omega) hb2
  obtain ⟨ap, cap', w7, hrun, hown7, hk7, hap⟩ := Owns.append (P := Tryz.prog) (t := S) (ty := S) ht hi hz hzs hsz (Owns.new hn2 ho)
    (s := some ⟨b1, 0, none⟩) (m := 1) (c := 1) (news := vs) (by omega) (rd_blk hz2 (by simp)) hs (by omega) (by omega)
  refine ⟨ap, n + 1, cap', w7, hrun, hk b1 ap cap' w7 hb hown7 ((Keep.of_new hn2).trans hk7 fun _ _ h => h) fun k hk => ?_⟩
  rcases hap with e | e
  · exact .inl (e ▸ hk)
  · obtain ⟨o, ho⟩ := hk
    rw [e] at ho
    simp at ho
    have := hn2.size
    omega

abbrev TSV : TypeId := 106
abbrev TSA : TypeId := 162

theorem pushV_k {u : World} {a : Option Addr} {n cap : Nat} {xs : List Value} (ho : Owns u TV 9 a n cap xs) {v : VerbV} (hb1 : n ≤ 1000000000) {K : Nat → Option Addr → Nat → Nat → World → Prop}
    (hk : ∀ b ap cap' w3, b = u.heap.size → Owns w3 TV 9 ap (n + 1) cap' (xs ++ v.cells) → Keep (isB a) u w3 → (∀ k, isB ap k → isB a k ∨ u.heap.size ≤ k) → K b ap (n + 1) cap' w3) :
    ∀ b1 w2, b1 = u.heap.size → w2 = u.alloc (.cells v.cells.toArray TV) → ∃ (ap : Option Addr) (ap_len ap_cap : Nat), ∃ w3, (Builtin.append_ #[TSV, TSV] TSV #[(.slice a n cap), (.slice (some ⟨b1, 0, none⟩) 1 1)]).run Tryz.prog w2 = .ok (.slice ap ap_len ap_cap) w3 ∧ K b1 ap ap_len ap_cap w3 := by
  obtain ⟨inf, hi, hz, hsz, hby⟩ := infoB (T := TV) (z := .agg #[.int .i64 0, .int .i64 0, .int .i64 0, .int .i64 0, .int .u64 0, .int .u64 0, .slice none 0 0, .int .u64 0, .int .i64 0]) (n := 9) (m := 88) (by kernel_rfl)
  rw [← hsz] at ho
  refine push_k Tryz.underlying106 hi hz (by rw [hsz]; rfl) (by omega) ho (by rw [hsz]; rfl) (VerbV.single v) hb1 (by omega) ?_
  intro b ap cap' w3 h1 h2
  rw [hsz] at h2
  exact hk b ap cap' w3 h1 h2

theorem pushA_k {u : World} {a : Option Addr} {n cap : Nat} {xs : List Value} (ho : Owns u TAc 2 a n cap xs) {v : Acc} (hb1 : n ≤ 1000000000) {K : Nat → Option Addr → Nat → Nat → World → Prop}
    (hk : ∀ b ap cap' w3, b = u.heap.size → Owns w3 TAc 2 ap (n + 1) cap' (xs ++ v.cells) → Keep (isB a) u w3 → (∀ k, isB ap k → isB a k ∨ u.heap.size ≤ k) → K b ap (n + 1) cap' w3) :
    ∀ b1 w2, b1 = u.heap.size → w2 = u.alloc (.cells v.cells.toArray TAc) → ∃ (ap : Option Addr) (ap_len ap_cap : Nat), ∃ w3, (Builtin.append_ #[TSA, TSA] TSA #[(.slice a n cap), (.slice (some ⟨b1, 0, none⟩) 1 1)]).run Tryz.prog w2 = .ok (.slice ap ap_len ap_cap) w3 ∧ K b1 ap ap_len ap_cap w3 := by
  obtain ⟨inf, hi, hz, hsz, hby⟩ := infoB (T := TAc) (z := .agg #[.int .i64 0, .int .u64 0]) (n := 2) (m := 16) (by kernel_rfl)
  rw [← hsz] at ho
  refine push_k Tryz.underlying162 hi hz (by rw [hsz]; rfl) (by omega) ho (by rw [hsz]; rfl) (Acc.single v) hb1 (by omega) ?_
  intro b ap cap' w3 h1 h2
  rw [hsz] at h2
  exact hk b ap cap' w3 h1 h2

theorem new_fresh {u z w3 : World} {a : Option Addr} (hn : New u z) (hk : Keep (isB a) z w3) (ha : ∀ k, isB a k → u.heap.size ≤ k) : New u w3 :=
  hn.trans hk fun k hlt hb => by have := ha k hb; omega

structure PW (A : Nat → Prop) (w0 u : World) (pb tb : Nat) (j : Job) (b g : Int) (T : TkX) (G : List (List Done)) (wr : Bool) : Prop where
  new : New w0 u
  lp : w0.heap.size ≤ pb
  lt : w0.heap.size ≤ tb
  pr : Blk u pb (prc j tb b g) TPr
  tk : Blk u tb T.cells TTk
  got : GotAt A w0 T.ga G
  gl : T.gl = G.length
  gc : T.gl ≤ T.gc
  g64 : U64 g
  wrong : T.wrong = wr

theorem PW.ne {A : Nat → Prop} {w0 u : World} {pb tb : Nat} {j : Job} {b g : Int} {T : TkX} {G : List (List Done)} {wr : Bool} (h : PW A w0 u pb tb j b g T G wr) : pb ≠ tb := h.pr.ne h.tk (by decide)

theorem PW.new' {A : Nat → Prop} {w0 u u' : World} {pb tb : Nat} {j : Job} {b g : Int} {T : TkX} {G : List (List Done)} {wr : Bool} (h : PW A w0 u pb tb j b g T G wr) (hn : New u u') : PW A w0 u' pb tb j b g T G wr :=
  ⟨h.new.new hn, h.lp, h.lt, New.blk hn h.pr, New.blk hn h.tk, h.got, h.gl, h.gc, h.g64, h.wrong⟩

theorem PW.keep {A : Nat → Prop} {w0 u u' : World} {pb tb : Nat} {j : Job} {b g : Int} {T : TkX} {G : List (List Done)} {wr : Bool} (h : PW A w0 u pb tb j b g T G wr) {M : Nat → Prop} (hk : Keep M u u') (h0 : ∀ k, M k → w0.heap.size ≤ k) (h1 : ¬ M pb) (h2 : ¬ M tb) : PW A w0 u' pb tb j b g T G wr :=
  ⟨h.new.trans hk fun k hlt hm => by have := h0 k hm; omega, h.lp, h.lt, hk.blk h.pr h1, hk.blk h.tk h2, h.got, h.gl, h.gc, h.g64, h.wrong⟩

def AskIs (lo : Nat) (u : World) (T : TkX) : Option (List Verb) → Prop
  | none => T.al = 0
  | some vs => T.al = vs.length ∧ Rd u T.aa (vrows (vs.map Verb.v)).flatten ∧ ∀ k, isB T.aa k → lo ≤ k

theorem AskIs.keep {lo : Nat} {u u' : World} {T : TkX} {o : Option (List Verb)} (h : AskIs lo u T o) {M : Nat → Prop} (hk : Keep M u u') (hM : ∀ k, M k → k < lo) : AskIs lo u' T o := by
  cases o with
  | none => exact h
  | some vs =>
    refine ⟨h.1, h.2.1.keep hk ?_, h.2.2⟩
    rcases h.2.1 with h1 | ⟨b, o, h1, _⟩
    · exact .inl h1
    · refine .inr ?_
      rw [h1]
      intro hm
      have h3 := h.2.2 b ⟨o, h1⟩
      have := hM b hm
      omega

theorem AskIs.mono {lo lo' : Nat} {u : World} {T : TkX} {o : Option (List Verb)} (h : AskIs lo u T o) (hl : lo' ≤ lo) : AskIs lo' u T o := by
  cases o with
  | none => exact h
  | some vs => exact ⟨h.1, h.2.1, fun k hk => Nat.le_trans hl (h.2.2 k hk)⟩

theorem max_u64 {g x : Int} (hg : U64 g) (hx : U64 x) : U64 (max g (cwP x)) := by
  have h1 := cwP_in hx
  unfold U64 at *
  omega

theorem readGo_len : ∀ (i : Nat) (ds : List Done) (acc : List Acc) (g : Int), (readGo i ds acc g).1.length ≤ acc.length + ds.length
  | _, [], acc, g => by simp [readGo]
  | i, d :: ds, acc, g => by
    unfold readGo
    split
    · have := readGo_len (i + 1) ds (acc ++ [⟨i, wordOf d⟩]) (max g (cwP (wordOf d)))
      simp at this ⊢
      omega
    · have := readGo_len (i + 1) ds acc g
      simp at this ⊢
      omega

theorem vrows_snoc (l : List Verb) (v : Verb) : (vrows ((l ++ [v]).map Verb.v)).flatten = (vrows (l.map Verb.v)).flatten ++ v.v.cells := by simp [vrows]

set_option maxHeartbeats 1000000 in
theorem read_c {A : Nat → Prop} {w0 u : World} {pb tb : Nat} {j : Job} {b g : Int} {T : TkX} {G : List (List Done)} {wr : Bool} (h : PW A w0 u pb tb j b g T G wr) (hT : T.al = 0) (hj : 1 ≤ j.nodes ∧ j.nodes ≤ 5) :
    Does 100 [ptr pb] u fun v u' => ∃ (a : Option Addr) (cap : Nat) (T' : TkX), v = .tuple #[.slice a (readGo 0 (batch G (readAsk j)).done [] g).1.length cap, .bool (batch G (readAsk j)).ok] ∧
      PW A w0 u' pb tb j b (readGo 0 (batch G (readAsk j)).done [] g).2 T' (batch G (readAsk j)).got (wr || (batch G (readAsk j)).wrong) ∧ Owns u' TAc 2 a (readGo 0 (batch G (readAsk j)).done [] g).1.length cap (arows (readGo 0 (batch G (readAsk j)).done [] g).1).flatten ∧
      (∀ k, isB a k → u.heap.size ≤ k) ∧ AskIs u.heap.size u' T' (batch G (readAsk j)).ask ∧ Keep (fun k => k = pb ∨ k = tb) u u' ∧ (∀ x ∈ (readGo 0 (batch G (readAsk j)).done [] g).1, U64 x.word) := by
  refine does Tryz.func100 ?_
  rw [ptr, paxos_proposer_read_vc]
  refine ⟨_, h.pr.cell rfl, ?_⟩
  obtain ⟨nn, hnn⟩ := Int.eq_ofNat_of_zero_le (show 0 ≤ j.nodes by omega)
  have hask : readAsk j = (List.range nn).map fun (i : Nat) => rdVerb i j.at_ := by unfold readAsk; rw [hnn]; rfl
  rw [hnn]
  refine loop_rule mix (fun m env z => ∃ (i : Nat) (aa : Option Addr) (ac : Nat) (jj : List Value), m = nn - i ∧ i ≤ nn ∧ env = paxos_proposer_read_env1 ⟨pb, 0, none⟩ none 0 0 aa i ac nn i jj ∧ New u z ∧ Owns z TV 9 aa i ac (vrows (((List.range i).map fun (i : Nat) => rdVerb i j.at_).map Verb.v)).flatten ∧ (∀ k, isB aa k → u.heap.size ≤ k)) nn
    ⟨0, none, 0, _, rfl, by omega, rfl, Keep.refl _ _, Owns.nil _ _ _, fun k hk => by obtain ⟨o, ho⟩ := hk; cases ho⟩ ?_
  rintro m env z ⟨i, aa, ac, jj, rfl, hi, rfl, hn, ho, hfr⟩
  rw [paxos_proposer_read_loop1_body]
  refine bif_dec (fun hp => ?_) (fun hp => ?_)
  · refine ⟨_, (New.blk hn h.pr).cell (i := 1) rfl, ?_⟩
    refine at_call (Consensus_c _ _) ?_
    rintro v z1 ⟨rfl, hn1⟩
    refine ⟨_, rfl, ?_⟩
    refine pushV_k (v := (rdVerb i j.at_).v) (Owns.new hn1 ho) (by omega) ?_
    intro b1 ap cap' z3 hb1 ho3 hk3 hap
    rw [w64 (by omega) (by omega)]
    refine ⟨nn - (i + 1), by omega, i + 1, ap, cap', _, rfl, by omega, rfl, new_fresh (hn.new hn1) hk3 hfr, ?_, ?_⟩
    · rw [List.range_succ, List.map_append, List.map_cons, List.map_nil, vrows_snoc]
      exact ho3
    · intro k hk
      rcases hap k hk with h1 | h1
      · exact hfr k h1
      · have := (hn.new hn1).size
        omega
  · have hin : i = nn := by omega
    subst hin
    rw [← hask] at ho
    have hal : (readAsk j).length = i := by rw [hask]; simp
    rw [paxos_proposer_read_aft1_vc]
    have hz := h.new' hn
    refine ⟨_, hz.pr.cell (i := 5) rfl, ?_⟩
    have hrd : Rd z aa (vrows ((readAsk j).map Verb.v)).flatten := ho.rd
    clear ho hp hi hask
    have hbl := batch_len (G := G) (vs := readAsk j)
    generalize hr : batch G (readAsk j) = r
    have hB := Batch_c hz.new hz.lt hz.tk hz.got hz.gl hz.gc (vs := readAsk j) (ac := ac) hrd (by omega)
    rw [hal, hr] at hB
    rw [hr, hal] at hbl
    refine at_call hB ?_
    rintro v z1 ⟨T', da, dc, raw, rfl, htk, hk1, hda, hds, hgot, hgl, hgc, hwr, hak⟩
    refine ⟨_, _, _, _, rfl, ?_⟩
    have hpbl : pb < u.heap.size := h.pr.lt
    have htbl : tb < u.heap.size := h.tk.lt
    have hn0 : New w0 z1 := hz.new.trans hk1 fun k hlt e => by have := h.lt; omega
    have hpr1 : Blk z1 pb (prc j tb b g) TPr := hk1.blk hz.pr (fun e => h.ne e)
    have hku : Keep (fun k => k = pb ∨ k = tb) u z1 := (Keep.of_new hn).trans hk1 fun _ _ e => .inr e
    have hask1 : AskIs u.heap.size z1 T' r.ask := by
      cases hra : r.ask with
      | none =>
        rw [hra] at hak
        exact hak.2.1.trans hT
      | some vs =>
        rw [hra] at hak
        have hvs : vs = readAsk j := by
          rw [← hr] at hra
          unfold batch at hra
          split at hra
          · cases hra
          · cases G with
            | nil => simp at hra; exact hra.symm
            | cons d G' =>
              simp only at hra
              split at hra <;> cases hra
        subst hvs
        refine ⟨by rw [hak.2.1, hal], ?_, fun k hk => hfr k (hak.1 ▸ hk)⟩
        rw [hak.1]
        refine hrd.keep hk1 ?_
        rcases hrd with h1 | ⟨b', o', h1, _⟩
        · exact .inl h1
        · refine .inr ?_
          rw [h1]
          intro e
          have e' : b' = tb := e
          have := hfr b' ⟨o', h1⟩
          omega
    have hdl : raw.length = r.done.length := hds.1
    refine loop_rule mix (fun m env y => ∃ (i : Nat) (a : Option Addr) (cap : Nat) (acc : List Acc) (g' : Int) (jj : List Value), m = r.done.length - i ∧ i ≤ r.done.length ∧ env = paxos_proposer_read_env2 ⟨pb, 0, none⟩ a acc.length cap r.ok da raw.length dc raw.length i jj ∧
        New w0 y ∧ Keep (fun k => k = pb) z1 y ∧ Blk y pb (prc j tb b g') TPr ∧ U64 g' ∧ Owns y TAc 2 a acc.length cap (arows acc).flatten ∧ (∀ k, isB a k → z1.heap.size ≤ k) ∧ readGo i (r.done.drop i) acc g' = readGo 0 r.done [] g ∧ acc.length ≤ i ∧ (∀ x ∈ acc, U64 x.word)) r.done.length
      ⟨0, none, 0, [], g, _, rfl, by omega, rfl, hn0, Keep.refl _ _, hpr1, h.g64, Owns.nil _ _ _, (fun k hk => by obtain ⟨o, ho⟩ := hk; cases ho), rfl, by simp, by simp⟩ ?_
    rintro m env y ⟨i, a, cap, acc, g', jj, rfl, hi, rfl, hny, hky, hpr, hg', hoa, hfa, hgo, hacc, hall⟩
    rw [paxos_proposer_read_loop2_body]
    refine bif_dec (fun hp => ?_) (fun hp => ?_)
    · have hlt : i < r.done.length := by omega
      have hx : r.done[i]? = some r.done[i] := List.getElem?_eq_getElem hlt
      have hv : raw[i]? = some raw[i] := List.getElem?_eq_getElem (by omega)
      have hda1 := hds.2 i _ _ hv hx
      obtain ⟨ba, oa, rfl, hca, hcell⟩ := (hda.new hny).row (drows_len raw) (by omega) (drows_get hv)
      rw [List.drop_eq_getElem_cons hlt, readGo] at hgo
      refine idxS_mk (by omega) (by omega) ?_
      refine ⟨_, _, _, _, by simpa [DoneV.cells] using hca, ?_⟩
      refine box_k (vs := DoneV.cells raw[i]) rfl (DoneV.single _) fun b1 y2 hb1 hz2 hn2 => ?_
      refine ⟨_, hz2.cell rfl, bif_beq (fun hc => ?_) (fun hc => ?_)⟩
      · refine ⟨_, _, _, _, dbox_ret hz2, ?_⟩
        have hdy2 : DoneAt A y2 raw[i] r.done[i] := hda1.keep (Keep.of_new (hny.new hn2)) (fun _ _ h => h)
        refine at_call (TWord_c hdy2) ?_
        rintro v y3 ⟨rfl, hn3⟩
        refine ⟨_, rfl, ?_⟩
        refine pushA_k (v := ⟨i, wordOf r.done[i]⟩) (Owns.new (hn2.new hn3) hoa) (by omega) ?_
        intro b2 ap cap' y5 hb2 ho5 hk5 hap
        have hal5 : ∀ k, isB a k → k < y.heap.size := fun k hk => hoa.lt hk
        have hb1y5 : Blk y5 b1 (DoneV.cells raw[i]) TD := hk5.blk (New.blk hn3 hz2) (fun hb => by have := hal5 _ hb; omega)
        refine ⟨_, _, _, _, dbox_ret hb1y5, ?_⟩
        have hk15 : Keep (isB a) y y5 := (Keep.of_new (hn2.new hn3)).trans hk5 fun _ _ h => h
        have hz1w : w0.heap.size ≤ z1.heap.size := hn0.size
        have hny5 : New w0 y5 := hny.trans hk15 fun k hlt hb => by have := hfa k hb; omega
        have hdy5 : DoneAt A y5 raw[i] r.done[i] := hda1.keep (Keep.of_new hny5) (fun _ _ h => h)
        refine at_call (TWord_c hdy5) ?_
        rintro v y6 ⟨rfl, hn6⟩
        refine ⟨_, rfl, ?_⟩
        have hpbz : pb < z1.heap.size := hpr1.lt
        have hpr6 : Blk y6 pb (prc j tb b g') TPr := New.blk hn6 (hk15.blk hpr (fun hb => by have := hfa _ hb; omega))
        refine at_call (met_c hpr6 (wordOf_u64 hda1)) ?_
        rintro v y7 ⟨rfl, hpr7, hk7⟩
        refine ⟨rfl, ?_⟩
        have hcd : r.done[i].code = 0 := by rw [← hda1.code]; exact hc
        rw [if_pos hcd] at hgo
        rw [w64 (by omega) (by omega)]
        have hfap : ∀ k, isB ap k → z1.heap.size ≤ k := fun k hk => by
          rcases hap k hk with h1 | h1
          · exact hfa k h1
          · have h2 := (hn2.new hn3).size
            have h3 := hky.size
            omega
        refine ⟨r.done.length - (i + 1), by omega, i + 1, ap, cap', acc ++ [⟨i, wordOf r.done[i]⟩], _, _, rfl, by omega, by simp; rfl, ?_, ?_, hpr7, max_u64 hg' (wordOf_u64 hda1), ?_, hfap, hgo, by simp; omega, ?_⟩
        · exact (hny5.new hn6).trans hk7 fun k hlt e => by have := h.lp; omega
        · refine ((hky.trans hk15 fun k hlt hb => ?_).new hn6).trans hk7 fun _ _ e => e
          have := hfa k hb
          omega
        · rw [arows_snoc, List.length_append]
          refine (Owns.new hn6 ho5).keep hk7 fun k hk e => ?_
          have := hfap k hk
          omega
        · intro x hx
          rcases List.mem_append.1 hx with h1 | h1
          · exact hall x h1
          · simp at h1
            rw [h1]
            exact wordOf_u64 hda1
      · have hcd : ¬ r.done[i].code = 0 := by rw [← hda1.code]; exact hc
        rw [if_neg hcd] at hgo
        rw [w64 (by omega) (by omega)]
        refine ⟨r.done.length - (i + 1), by omega, i + 1, a, cap, acc, g', _, rfl, by omega, rfl, hny.new hn2, hky.new hn2, New.blk hn2 hpr, hg', Owns.new hn2 hoa, hfa, hgo, by omega, hall⟩
    · have hin : i = r.done.length := by omega
      subst hin
      rw [paxos_proposer_read_aft2_vc]
      rw [List.drop_of_length_le (Nat.le_refl _), readGo] at hgo
      have hpbz : pb < z1.heap.size := hpr1.lt
      rw [← hgo]
      have hzu : u.heap.size ≤ z1.heap.size := hku.size
      refine ⟨a, cap, T', rfl, ⟨hny, h.lp, h.lt, hpr, hky.blk htk (fun e => h.ne e.symm), hgot, hgl, hgc, hg', by rw [hwr, h.wrong]⟩, hoa, fun k hk => Nat.le_trans hzu (hfa k hk), hask1.keep hky (fun k e => by omega), hku.trans hky fun _ _ e => .inl e, hall⟩
end Go.Proofs.YteaknokogenndaaGreat
