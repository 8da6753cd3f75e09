/- The law PaxosAgrees: it returns true at every input. -/
import Derived.Test.YteaknokogenndaaGreatAgr5
import Derived.Test.YteaknokogenndaaGreatCode1
set_option linter.unusedVariables false
namespace Go.Proofs.YteaknokogenndaaGreat
open Go.Eng

/-! ### The proposers -/

theorem props_len (n : Nat) : ∀ (rs : List Int) (i : Nat), (propsFrom n i rs).length = min (4 - i) rs.length
  | [], i => by simp [propsFrom]
  | r :: rs, i => by
    unfold propsFrom
    split
    · rw [List.length_cons, props_len n rs (i + 1), List.length_cons]; omega
    · rw [List.length_nil, List.length_cons]; omega

theorem props_at (n : Nat) : ∀ {rs : List Int} {i k : Nat} {r : Int}, rs[k]? = some r → i + k < 4 → (propsFrom n i rs)[k]? = some (aTalk n (i + k) (r % 4 + 1))
  | [], i, k, r, h, _ => by simp at h
  | x :: rs, i, 0, r, h, hk => by
    simp at h
    unfold propsFrom
    rw [if_pos (by omega), h]
    rfl
  | x :: rs, i, k + 1, r, h, hk => by
    unfold propsFrom
    rw [if_pos (by omega), List.getElem?_cons_succ, props_at n (i := i + 1) (k := k) (r := r) (by simpa using h) (by omega)]
    congr 2
    omega

def ptx (t : Talk) : TX := ⟨t, none, 0⟩
theorem ptx_t (l : List Talk) : (l.map ptx).map TX.t = l := by simp [ptx, Function.comp_def]

theorem rdi {u : World} {a : Option Addr} {xs : List Int} (h : Rd u a (is xs)) {i : Nat} {x : Int} (hx : xs[i]? = some x) {K : Addr → Prop} (hk : ∀ ad, u.cell? ad = some (.int .i64 x) → K ad) : idxS a xs.length i 1 K := by
  have hlt := lt_of_get hx
  rcases h with h | ⟨b, o, rfl, hc⟩
  · simp [is] at h; subst h; simp at hlt
  · refine idxS_mk (by omega) (by omega) (hk _ ?_)
    have := hc i (.int .i64 x) (by simp [is, hx])
    simpa using this

structure ProPost (w : World) (n : Nat) (rs : List Int) (v : Value) (w' : World) : Prop where
  ex : ∃ la lc, v = .slice la ((propsFrom n 0 rs).map ptx).length lc ∧ Owns w' TTa 12 la ((propsFrom n 0 rs).map ptx).length lc (trows ((propsFrom n 0 rs).map ptx)).flatten ∧ (∀ k, isB la k → w.heap.size ≤ k)
  new : New w w'

theorem proposers_c (w : World) {p0 : Option Addr} {c0 : Nat} {rs : List Int} {n : Nat} (hn : n ≤ 5) (hr : Rd w p0 (is rs)) (ir : ∀ x ∈ rs, I64 x) : Does 17 [.slice p0 rs.length c0, .int .i64 n] w (ProPost w n rs) := by
  refine does Tryz.func17 ?_
  rw [bodegalaw9_proposers_vc]
  generalize hP : propsFrom n 0 rs = P
  have hPl : P.length = min 4 rs.length := by rw [← hP, props_len]
  obtain ⟨inf, hi, hz, hsz, hby⟩ := infoB (T := TTa) (z := .agg #[.int .i64 0, .int .i64 0, .int .i64 0, .int .i64 0, .int .i64 0, .int .i64 0, .int .u64 0, .slice none 0 0, .bool false, .bool false, .int .i64 0, .int .u64 0]) (n := 12) (m := 104) (by kernel_rfl)
  refine loop_rule mix (fun m env u => ∃ (i : Nat) (la : Option Addr) (lc : Nat) (jj : List Value), m = rs.length - i ∧ i ≤ P.length ∧ env = bodegalaw9_proposers_env1 p0 rs.length c0 n la i lc i jj ∧ New w u ∧ Owns u TTa 12 la i lc (trows ((P.take i).map ptx)).flatten ∧ (∀ k, isB la k → w.heap.size ≤ k)) rs.length
    ⟨0, none, 0, _, by omega, by omega, rfl, Keep.refl _ _, Owns.nil _ _ _, fun k hk => by obtain ⟨o, ho⟩ := hk; cases ho⟩ ?_
  rintro m env u ⟨i, la, lc, jj, rfl, hile, rfl, hnu, hoc, hfc⟩
  rw [bodegalaw9_proposers_loop1_body]
  have hend : i = P.length → ∀ jj', W Tryz.prog (sub (bodyOf Tryz.f17) [1, 1, 1]) (bodegalaw9_proposers_aft1 la i lc jj') (retQ Tryz.prog Tryz.f17 (ProPost w n rs)) u := by
    intro hin jj'
    rw [bodegalaw9_proposers_aft1_vc]
    rw [List.take_of_length_le (by omega)] at hoc
    refine ⟨⟨la, lc, ?_, ?_, hfc⟩, hnu⟩
    · rw [hP, List.length_map, ← hin]
    · rw [hP, List.length_map, ← hin]; exact hoc
  refine bif_dec (fun hp => bif_dec (fun hp4 => ?_) (fun hp4 => hend (by omega) _)) (fun hp => hend (by omega) _)
  have hlt : i < rs.length := by omega
  have hg : rs[i]? = some rs[i] := List.getElem?_eq_getElem hlt
  have hPi : P[i]? = some (aTalk n i (rs[i] % 4 + 1)) := by
    have := props_at n (i := 0) (k := i) hg (by omega)
    rw [hP, Nat.zero_add] at this
    exact this
  refine rdi (hr.new hnu) hg fun ad hc => ⟨_, hc, ?_⟩
  refine at_call (Pick_c _ _ _ (ir _ (List.getElem_mem hlt)) (by omega)) ?_
  rintro v u1 ⟨rfl, rfl⟩
  rw [if_neg (by omega)]
  refine ⟨_, rfl, ?_⟩
  rw [w64 (x := rs[i] % 4 + 1) (by omega) (by omega), w64 (x := 100 + (i : Int)) (by omega) (by omega), wu64 (x := 100 + (i : Int)) (by omega) (by omega)]
  have hoc' : Owns u1 TTa inf.size la i lc (trows ((P.take i).map ptx)).flatten := by rw [hsz]; exact hoc
  refine push_k Tryz.underlying40 hi hz (by rw [hsz]; rfl) (by omega) hoc' (vs := (aTalk n i (rs[i] % 4 + 1)).cells none 0) (by rw [hsz]; rfl) (Talk.single _ _ _) (by omega) (by omega) ?_
  intro b3 ap1 cap1 u2 hb3 ho2 hk2 hap1
  rw [hsz] at ho2
  rw [w64 (by omega) (by omega)]
  refine ⟨rs.length - (i + 1), by omega, i + 1, ap1, cap1, _, rfl, ?_, rfl, new_fresh hnu hk2 hfc, ?_, ?_⟩
  · have := lt_of_get hPi; omega
  · have e : (trows ((P.take (i + 1)).map ptx)).flatten = (trows ((P.take i).map ptx)).flatten ++ (aTalk n i (rs[i] % 4 + 1)).cells none 0 := by
      rw [List.take_add_one, hPi]
      simp [trows, ptx]
    rw [e]
    exact ho2
  · intro k hk
    rcases hap1 k hk with h1 | h1
    · exact hfc k h1
    · have := hnu.size
      omega

/-! ### Agreement -/

def decd (t : Talk) : Prop := t.over = true ∧ t.code = 0

theorem rdrow {u : World} {a : Option Addr} {ts : List TX} (h : Rd u a (trows ts).flatten) {i : Nat} {x : TX} (hx : ts[i]? = some x) {K : Addr → Prop} (hk : ∀ b o, (∀ (q : Nat) (v : Value), (x.t.cells x.ga x.gc)[q]? = some v → u.cell? ⟨b, o + q, none⟩ = some v) → K ⟨b, o, none⟩) : idxS a ts.length i 12 K := by
  have hlt := lt_of_get hx
  obtain ⟨b, o, rfl, _, hc⟩ := h.row (trows_len ts) (by omega) (trows_get hx)
  exact idxS_mk (by omega) (by omega) (hk b _ fun q v hv => by have := hc q v hv; simpa using this)

theorem agreed_c (w : World) {la : Option Addr} {lc : Nat} {ts : List TX} (h : Rd w la (trows ts).flatten) (hl : ts.length ≤ 1000) (hb : ∀ x ∈ ts, x.t.bad = false) (ha : ∀ x ∈ ts, ∀ y ∈ ts, decd x.t → decd y.t → x.t.value = y.t.value) :
    Does 18 [.slice la ts.length lc] w fun v w' => w' = w ∧ ∃ (val : Int) (any : Bool), v = .tuple #[.int .u64 val, .bool true, .bool any] ∧ (any = true → ∃ x ∈ ts, decd x.t ∧ x.t.value = val) := by
  refine does Tryz.func18 ?_
  rw [bodegalaw9_agreed_vc]
  refine loop_rule mix (fun m env u => ∃ (i : Nat) (val : Int) (any : Bool) (jj : List Value), m = ts.length - i ∧ i ≤ ts.length ∧ env = bodegalaw9_agreed_env1 la ts.length lc val any i jj ∧ u = w ∧ (any = true → ∃ x ∈ ts, decd x.t ∧ x.t.value = val)) ts.length
    ⟨0, 0, false, _, by omega, by omega, rfl, rfl, fun h => by cases h⟩ ?_
  rintro m env u ⟨i, val, any, jj, rfl, hi, rfl, rfl, hv⟩
  rw [bodegalaw9_agreed_loop1_body]
  refine bif_dec (fun hp => ?_) (fun hp => ?_)
  · have hlt : i < ts.length := by omega
    have hg : ts[i]? = some ts[i] := List.getElem?_eq_getElem hlt
    have hm := List.getElem_mem hlt
    have hnext : ∀ (val' : Int) (any' : Bool) (jj' : List Value), (any' = true → ∃ x ∈ ts, decd x.t ∧ x.t.value = val') →
        ∃ m', m' < ts.length - i ∧ ∃ (i' : Nat) (val : Int) (any : Bool) (jj : List Value), m' = ts.length - i' ∧ i' ≤ ts.length ∧ bodegalaw9_agreed_env1 la ts.length lc val' any' (IntKind.i64.wrap ((i : Int) + 1)) jj' = bodegalaw9_agreed_env1 la ts.length lc val any i' jj ∧ u = u ∧ (any = true → ∃ x ∈ ts, decd x.t ∧ x.t.value = val) := by
      intro val' any' jj' hv'
      rw [w64 (by omega) (by omega)]
      exact ⟨ts.length - (i + 1), by omega, i + 1, val', any', jj', rfl, by omega, rfl, rfl, hv'⟩
    refine rdrow h hg fun b o hc => ⟨_, hc 9 _ rfl, bif_f (hb _ hm) (rdrow h hg fun b o hc => ⟨_, hc 8 _ rfl, bif_b (fun hov => ?_) (fun hov => ?_)⟩)⟩
    · exact hnext _ _ _ hv
    · have hov : ts[i].t.over = true := by simpa using hov
      refine rdrow h hg fun b o hc => ⟨_, hc 10 _ rfl, bif_b (fun hcd => hnext _ _ _ hv) (fun hcd => ?_)⟩
      have hcd : ts[i].t.code = 0 := by simpa using hcd
      refine bif_b (fun han => ?_) (fun han => ?_)
      · refine rdrow h hg fun b o hc => ⟨_, hc 11 _ rfl, bif_f ?_ (rdrow h hg fun b o hc => ⟨_, hc 11 _ rfl, hnext _ _ _ fun _ => ⟨ts[i], hm, ⟨hov, hcd⟩, rfl⟩⟩)⟩
        obtain ⟨x, hx, hxd, hxv⟩ := hv han
        rw [← hxv, ha x hx _ hm hxd ⟨hov, hcd⟩]
        simp
      · exact rdrow h hg fun b o hc => ⟨_, hc 11 _ rfl, hnext _ _ _ fun _ => ⟨ts[i], hm, ⟨hov, hcd⟩, rfl⟩⟩
  · rw [bodegalaw9_agreed_aft1_vc]
    exact ⟨rfl, val, any, rfl, hv⟩

/-! ### The law -/

theorem lTalk_val (n : Nat) : (lTalk n).val none 0 = .agg #[(.int .i64 2), (.int .i64 5), (.int .i64 n), (.int .i64 2), (.int .i64 5), (.int .i64 9), (.int .u64 999), (.slice none 0 0), (.bool false), (.bool false), (.int .i64 0), (.int .u64 0)] := rfl
theorem lTalk_tx (A : Nat → Prop) (u : World) (n : Nat) : TXAt A u ⟨lTalk n, none, 0⟩ := ⟨GotAt.nil _ _ _, Nat.le_refl _, ⟨rfl, ⟨show (0 : Int) ≤ 999 by decide, show (999 : Int) < 18446744073709551616 by decide⟩, by simp [lTalk], fun _ => by simp [lTalk]⟩⟩
theorem aTalk_tx (A : Nat → Prop) (u : World) {n : Nat} {rs : List Int} : ∀ x ∈ (propsFrom n 0 rs).map ptx, TXAt A u x := by
  intro x hx
  obtain ⟨t, ht, rfl⟩ := List.mem_map.1 hx
  obtain ⟨i, hi⟩ := List.mem_iff_getElem?.1 ht
  obtain ⟨h1, r, rfl, _⟩ := props_get hi
  refine ⟨GotAt.nil _ _ _, Nat.le_refl _, ⟨rfl, ⟨show (0 : Int) ≤ 100 + ((0 + i : Nat) : Int) by omega, show 100 + ((0 + i : Nat) : Int) < 18446744073709551616 by omega⟩, by simp [ptx, aTalk], fun _ => by simp [ptx, aTalk]⟩⟩

attribute [local irreducible] alone lTalk drive propsFrom

set_option maxHeartbeats 2000000 in
/-- The law returns true. -/
theorem PaxosAgrees_c (w : World) {p0 p2 p3 : Option Addr} {c0 c2 c3 : Nat} {rs ss : List Int} {es : List Event} {x1 : Int} (hr : Rd w p0 (is rs)) (hs : Rd w p2 (is ss)) (he : Rd w p3 (erows es).flatten) (ir : ∀ x ∈ rs, I64 x) (i1 : I64 x1) (iss : ∀ x ∈ ss, I64 x) (ie : ∀ e ∈ es, e.Ok) :
    Does 4 [.slice p0 rs.length c0, .int .i64 x1, .slice p2 ss.length c2, .slice p3 es.length c3] w fun v w' => v = .bool true ∧ New w w' := by
  refine does Tryz.func4 ?_
  rw [bodegalaw9_PaxosAgrees_vc]
  refine at_call (Pick_c _ _ _ i1 (by omega)) ?_
  rintro v w1 ⟨rfl, rfl⟩
  rw [if_neg (by omega)]
  refine ⟨_, rfl, bif_dec (fun hp => ⟨rfl, Keep.refl _ _⟩) (fun hp => bif_dec (fun hp2 => ⟨rfl, Keep.refl _ _⟩) (fun hp2 => ?_))⟩
  obtain ⟨n, hn⟩ : ∃ n : Nat, 2 * (x1 % 3) + 1 = n := ⟨(2 * (x1 % 3) + 1).toNat, by omega⟩
  have hn5 : 1 ≤ n ∧ n ≤ 5 := by omega
  rw [w64 (x := 2 * (x1 % 3)) (by omega) (by omega), w64 (x := 2 * (x1 % 3) + 1) (by omega) (by omega), hn]
  refine at_call (Fresh_c (c := 6) (lines := 98) hn5 (by omega) (by omega)) ?_
  rintro v w2 ⟨fb, A, χ, X, rfl, hF, hn2, hA, hX⟩
  refine ⟨_, _, rfl, bif_f rfl ?_⟩
  refine at_call (awake_c _) ?_
  rintro v w3 ⟨rfl, hn3⟩
  refine ⟨_, rfl, bif_f rfl ?_⟩
  have hn03 : New w1 w3 := hn2.new hn3
  refine at_call (proposers_c w3 hn5.2 (hr.new hn03) ir) ?_
  rintro v w4 ⟨⟨la, lc, rfl, hown, hfr⟩, hn4⟩
  have hn04 := hn03.new hn4
  refine ⟨_, _, _, rfl, ?_⟩
  have hF4 := hF.new (hn3.new hn4)
  have hoff : ∀ {a : Option Addr} {xs : List Value}, Rd w1 a xs → Dat A w4 a xs := by
    intro a xs h
    refine ⟨h.new hn04, ?_⟩
    by_cases hx : xs = []
    · exact .inl hx
    · refine .inr ?_
      cases a with
      | none => trivial
      | some ad =>
        intro hm
        have h1 := hA _ hm
        have h2 := h.lt hx
        omega
  have hfine : Fine X.pure := by rw [hX]; exact Fine.fresh hn5 (by omega) (by omega)
  have hpl : ((propsFrom n 0 rs).map ptx).length ≤ 1000 := by rw [List.length_map, props_len]; omega
  refine at_call (Drive_c hF4 hfine hown.rd (aTalk_tx A w4) hpl (hoff hs) iss (hoff he) ie (by omega) (most := 400) (by omega)) ?_
  rintro v w5 hp5
  obtain ⟨A5, χ5, X5, hF5, hn5', hA5, hX5, la5, lc5, ts5, rfl, hts5, hown5, hB5, htx5⟩ := mine_op hF4 hn04 hA hp5
  rw [hX, ptx_t] at hX5 hts5
  obtain ⟨g, hD⟩ := agr_drive hn5 rs ss es (by omega)
  generalize hdr : drive (Fab.fresh n 6 98) (propsFrom n 0 rs) ss es 400 = D at hX5 hts5 hD
  have htl : ts5.length = D.2.length := by rw [← hts5, List.length_map]
  refine ⟨_, _, _, rfl, ?_⟩
  have hTI : ∀ x ∈ ts5, ∃ i, TkI n g D.1 i x.t := by
    intro x hx
    obtain ⟨i, hi⟩ := List.mem_iff_getElem?.1 hx
    exact ⟨i, hD.ts i x.t (by rw [← hts5, List.getElem?_map, hi]; rfl)⟩
  have hch : ∀ x ∈ ts5, decd x.t → ∃ b, Chosen n g b x.t.value := by
    rintro x hx ⟨h1, h2⟩
    obtain ⟨i, hi⟩ := hTI x hx
    obtain ⟨C, _, hc⟩ := hi.cl
    rcases hc with ⟨_, h3⟩ | ⟨h3, _⟩
    · exact ⟨_, h3 h2⟩
    · rw [h1] at h3; cases h3
  have hlen5 : D.2.length ≤ 1000 := by
    rw [← htl]
    have : ∀ i t, D.2[i]? = some t → i < 4 := fun i t ht => (hD.ts i t ht).job.lt
    have h4 : D.2.length ≤ 4 := by
      rcases Nat.lt_or_ge 4 D.2.length with h | h
      · have := this 4 _ (List.getElem?_eq_getElem h); omega
      · exact h
    omega
  have hrd5 : Rd w5 la5 (trows ts5).flatten := hown5.rd
  rw [hX, ptx_t, hdr, ← htl]
  refine at_call (agreed_c w5 hrd5 (by omega) (fun x hx => by obtain ⟨i, hi⟩ := hTI x hx; exact hi.bad) (fun x hx y hy hxd hyd => by
    obtain ⟨b, hb⟩ := hch x hx hxd
    obtain ⟨c, hc⟩ := hch y hy hyd
    exact chosen_eq hD.pi.ok hc hb)) ?_
  rintro v w6 ⟨rfl, val, any, rfl, hany⟩
  refine ⟨_, _, _, rfl, bif_f rfl ?_⟩
  have hval : any = true → ∃ b, Chosen n g b val := by
    intro ha
    obtain ⟨x, hx, hxd, rfl⟩ := hany ha
    exact hch x hx hxd
  have hfi := hD.fi
  rw [← hX5] at hfi
  have hmain : ∀ jj, codeW Tryz.prog (.loop (sub (bodyOf Tryz.f4) [1, 1, 1, 1, 1, 1, 1, 1, 0, 1, 0, 0])) (bodegalaw9_PaxosAgrees_env1 n (some ⟨fb, 0, none⟩) val any 0 jj) (blockQ 0 (seqQ (fun env w => W Tryz.prog (sub (bodyOf Tryz.f4) [1, 1, 1, 1, 1, 1, 1, 1, 1]) env (retQ Tryz.prog Tryz.f4 fun v w' => v = .bool true ∧ New w1 w') w) (retQ Tryz.prog Tryz.f4 fun v w' => v = .bool true ∧ New w1 w'))) w6 := by
    intro jj0
    refine loop_rule mix (fun m env u => ∃ (k : Nat) (A : Nat → Prop) (χ : Nat → Tag) (X : FabX) (jj : List Value), m = n - k ∧ k ≤ n ∧ env = bodegalaw9_PaxosAgrees_env1 n (some ⟨fb, 0, none⟩) val any k jj ∧ FabAt A χ u fb X ∧ New w1 u ∧ (∀ z, A z → w1.heap.size ≤ z) ∧ FI n k g X.pure) n
      ⟨0, A5, χ5, X5, _, by omega, by omega, rfl, hF5, hn5', hA5, hfi⟩ ?_
    rintro m env u ⟨k, A, χ, X, jj, rfl, hk, rfl, hF, hnu, hA, hfi⟩
    have hXn : X.nodes.length = n := by
      obtain ⟨g', hp, _⟩ := hfi.ex
      have := hp.len
      simpa [FabX.pure] using this
    rw [bodegalaw9_PaxosAgrees_loop1_body]
    refine bif_dec (fun hp => ?_) (fun hp => ?_)
    · have hkn : k < n := by omega
      obtain ⟨x, hx⟩ : ∃ x, X.nodes[k]? = some x := ⟨_, List.getElem?_eq_getElem (by omega)⟩
      refine at_call (Node_some hF hx) ?_
      rintro v u1 ⟨rfl, rfl⟩
      refine ⟨_, rfl, ?_⟩
      refine at_call (Back_f hF hx) ?_
      rintro v u2 ⟨rfl, hp2⟩
      obtain ⟨A', χ', X', hF', hn', hA', hX', _⟩ := mine_op hF hnu hA hp2
      refine ⟨_, rfl, ?_⟩
      rw [w64 (by omega) (by omega)]
      exact ⟨n - (k + 1), by omega, k + 1, A', χ', X', _, rfl, by omega, rfl, hF', hn', hA', by rw [hX']; exact hfi.back hkn⟩
    have hkn : k = n := by omega
    rw [hkn] at hfi
    rw [bodegalaw9_PaxosAgrees_aft1_vc]
    refine loop_rule mix (fun m env u => ∃ (A : Nat → Prop) (χ : Nat → Tag) (X : FabX) (jj : List Value), m = meas X.pure ∧ env = bodegalaw9_PaxosAgrees_env2 n (some ⟨fb, 0, none⟩) val any jj ∧ FabAt A χ u fb X ∧ New w1 u ∧ (∀ z, A z → w1.heap.size ≤ z) ∧ FI n n g X.pure) (meas X.pure)
      ⟨A, χ, X, _, rfl, rfl, hF, hnu, hA, hfi⟩ ?_
    clear hF hnu hA hfi hXn hk
    rintro m env u ⟨A, χ, X, jj, rfl, rfl, hF, hnu, hA, hfi⟩
    rw [bodegalaw9_PaxosAgrees_loop2_body]
    obtain ⟨g', hPI, _⟩ := hfi.ex
    have hor : X.orphans.length ≤ 100000000 := by have := hPI.fine.le; simp [FabX.pure] at this; omega
    refine at_call (Choices_c hF hPI.fine.good.ok hor) ?_
    rintro v u1 ⟨a, cap, rfl, hch1⟩
    have hF1 := hF.new hch1.new
    have hnu1 := hnu.new hch1.new
    refine ⟨_, _, _, rfl, bif_dec (fun hp => ?_) (fun hp => ?_)⟩
    · refine at_call (Choices_c hF1 hPI.fine.good.ok hor) ?_
      rintro v u2 ⟨a2, cap2, rfl, hch2⟩
      have hcx : X.pure.choices[0]? = some X.pure.choices[0] := List.getElem?_eq_getElem (by omega)
      obtain ⟨ba, oa, rfl, hca, _⟩ := hch2.own.rd.row (chrows_len _) (by omega) (chrows_get hcx)
      refine ⟨_, _, _, rfl, idxS_mk (by omega) (by omega) ⟨_, _, _, hca, ?_⟩⟩
      refine at_call (FStep_c (hF1.new hch2.new) hPI.fine.good.ok X.pure.choices[0]) ?_
      rintro v u3 ⟨rfl, hp3⟩
      obtain ⟨A', χ', X', hF', hn', hA', hX', _⟩ := mine_op (hF1.new hch2.new) (hnu1.new hch2.new) hA hp3
      refine ⟨_, rfl, meas X'.pure, ?_, A', χ', X', _, rfl, rfl, hF', hn', hA', by rw [hX']; exact hfi.step _⟩
      rw [hX']
      exact step_dec hPI (List.getElem_mem _)
    · have hc0 : X.pure.choices = [] := List.eq_nil_of_length_eq_zero (by omega)
      rw [bodegalaw9_PaxosAgrees_aft2_vc]
      have htx := lTalk_tx A u1 n
      rw [← lTalk_val]
      refine at_call (Alone_c hF1 hPI.fine htx) ?_
      rintro v u2 hp2
      obtain ⟨A', χ', X', hF', hn', hA', hX', t', ga', gc', ht', rfl, _⟩ := mine_op hF1 hnu1 hA hp2
      obtain ⟨F2, t2, hal, hov, hbad, hcode, hvv⟩ := agr_last hn5 hfi hc0
      rw [hal] at ht'
      have htt : t2 = t' := by simpa using ht'
      subst htt
      refine ⟨t2.kind, t2.client, t2.job.nodes, t2.job.number, t2.job.client, t2.job.round, t2.job.value, ga', t2.got.length, gc', t2.over, t2.bad, t2.code, t2.value, rfl, ?_⟩
      refine box_k (vs := t2.cells ga' gc') rfl (Talk.single _ _ _) fun b1 u3 hb1 hz3 hn3 => ?_
      refine ⟨_, hz3.cell (i := 8) rfl, bif_f (by rw [hov]; rfl) ⟨_, hz3.cell (i := 9) rfl, bif_f hbad ⟨_, hz3.cell (i := 10) rfl, bif_f (by rw [hcode]; rfl) (bif_b (fun ha => ⟨rfl, hn'.new hn3⟩) (fun ha => ⟨_, hz3.cell (i := 11) rfl, ?_, hn'.new hn3⟩))⟩⟩⟩
      have ha : any = true := by simpa using ha
      obtain ⟨b, hb⟩ := hval ha
      rw [hvv b val hb]
      simp
  refine bif_b (fun ha => ?_) (fun ha => hmain _)
  obtain ⟨b, hb⟩ := hval ha
  have hin := hD.pi.ok.val_in (hb.val hD.pi.ok)
  exact bif_f (by simp; omega) (bif_f (by simp; omega) (hmain _))
end Go.Proofs.YteaknokogenndaaGreat
