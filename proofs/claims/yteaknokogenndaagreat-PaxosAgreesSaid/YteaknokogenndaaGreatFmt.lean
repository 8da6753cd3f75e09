/- Formatting of memory nodes, fresh fabrics, words of a fabric. -/
import Derived.Test.YteaknokogenndaaGreatLay
set_option linter.unusedVariables false
namespace Go.Proofs.YteaknokogenndaaGreat
open Go.Eng

/-! ### The formatted memory -/

def fmt0 (lines n : Nat) : List Int := (((List.replicate (lines * 8) 0).set 0 1).set 1 1).set 8 (cw 1 1 (iv n))
def doorsAt : Nat → Nat → List Int → List Int
  | 0, _, ws => ws
  | k + 1, c, ws => doorsAt k (c + 1) (ws.set (24 + c) 1)
def pagesAt : Nat → Nat → List Int → List Int
  | 0, _, ws => ws
  | k + 1, l, ws => pagesAt k (l + 1) (ws.set (l * 8) 256)
def fmt (lines n : Nat) : List Int := pagesAt (lines - 96) 96 (doorsAt 6 0 (fmt0 lines n))

theorem us_rep (n : Nat) (x : Int) : List.replicate n (Value.int .u64 x) = us (List.replicate n x) := by simp [us]

theorem cw_one {n : Nat} (h : n ≤ 5) : 0 ≤ cw 1 1 (iv n) ∧ cw 1 1 (iv n) < 18446744073709551616 := by
  have := iv_in h
  unfold cw
  omega

def Words64 (ws : List Int) : Prop := ∀ x ∈ ws, 0 ≤ x ∧ x < 18446744073709551616
theorem Words64.set {ws : List Int} (h : Words64 ws) {x : Int} (hx : 0 ≤ x ∧ x < 18446744073709551616) (i : Nat) : Words64 (ws.set i x) := fun y hy => by
  rcases List.mem_or_eq_of_mem_set hy with h1 | rfl
  · exact h y h1
  · exact hx

abbrev TU64 : TypeId := 22

theorem buf_set {u w0 : World} {b len : Nat} {ws : List Int} {i x : Int} {K : Addr → World → Prop} (hz : Blk u b (us ws) TU64) (hn : New w0 u) (hb : w0.heap.size ≤ b) (h0 : 0 ≤ i) (h1 : i < ws.length) (hlen : len = ws.length)
    (hk : ∀ ad u', Blk u' b (us (ws.set i.toNat x)) TU64 → New w0 u' → K ad u') : idxS (some ⟨b, 0, none⟩) len i 1 fun ad => (∃ u', u.cell? ad = some u') ∧ u.frozen? ad = false ∧ ∀ w', w' = u.setCell ad (.int .u64 x) → K ad w' := by
  refine idxS_mk h0 (by omega) ?_
  have e : 0 + i.toNat * 1 = i.toNat := by omega
  rw [e]
  have hc : ∃ y, ws[i.toNat]? = some y := ⟨_, List.getElem?_eq_getElem (by omega)⟩
  obtain ⟨y, hy⟩ := hc
  refine ⟨⟨_, hz.cell (us_get hy)⟩, hz.frozen, ?_⟩
  rintro w' rfl
  refine hk _ _ ?_ (Keep.setCell hn (.inr hb) _)
  have := hz.setCell (i := i.toNat) (.int .u64 x)
  rwa [show (us ws).set i.toNat (.int .u64 x) = us (ws.set i.toNat x) by simp [us, List.map_set]] at this

set_option maxHeartbeats 1000000 in
theorem Format_c {w : World} {b bw : Nat} {s : NodeS} (h : NodeAt w b bw s) {lines n : Nat} (hl : s.words.length = lines * 8) (h98 : 98 ≤ lines) (h256 : lines ≤ 256) (hd : s.down = false) (h1 : 1 ≤ n) (h5 : n ≤ 5) :
    Does 50 [ptr b, .int .i64 n] w fun v w' => v = .int .i64 0 ∧ NodeAt w' b bw ⟨fmt lines n, false⟩ ∧ Keep (fun k => k = bw) w w' := by
  have hdiv : s.words.length / 8 = lines := by omega
  have hiv := iv_in h5
  refine does Tryz.func50 ?_
  rw [ptr, layout_Format_vc]
  refine at_call (IV_c _ h1 h5) ?_
  rintro v w1 ⟨rfl, rfl⟩
  refine ⟨_, _, rfl, bif_f rfl ?_⟩
  refine at_call (Lines_c h) ?_
  rintro v w1 ⟨rfl, rfl⟩
  refine ⟨_, rfl, bif_dec (fun hc => by omega) fun _ => ?_⟩
  refine at_call (Up_c h) ?_
  rintro v w1 ⟨rfl, rfl⟩
  refine ⟨_, rfl, bif_f (by simp [hd]) ?_⟩
  refine at_call (Lines_c h) ?_
  rintro v w1 ⟨rfl, rfl⟩
  refine ⟨_, rfl, ?_⟩
  rw [hdiv]
  refine at_call (Words_c _ (by omega) (by omega)) ?_
  rintro v w1 ⟨rfl, rfl⟩
  refine ⟨_, rfl, by omega, by omega, by omega, by omega, ?_⟩
  have e8 : Int.toNat ((lines : Int) * 8) = lines * 8 := by omega
  rw [e8, reps_one, us_rep]
  rintro b1 w2 hb1 hw2
  obtain ⟨hz2, hn2⟩ := box_new hb1 hw2
  replace hz2 : Blk w2 b1 (us (List.replicate (lines * 8) 0)) TU64 := hz2
  clear hw2
  have hbl : w1.heap.size ≤ b1 := by omega
  refine at_call (Key0_c _) ?_
  rintro v w3 ⟨rfl, rfl⟩
  refine ⟨_, _, rfl, ?_⟩
  refine buf_set (len := lines * 8) (i := 0) (x := 1) hz2 hn2 hbl (by omega) (by simp; omega) (by simp) ?_
  intro ad w4 hz4 hn4
  refine buf_set hz4 hn4 hbl (by omega) (by simp; omega) (by simp) ?_
  intro ad w5 hz5 hn5
  refine at_call (Consensus_c _ _) ?_
  rintro v w6 ⟨rfl, hn6⟩
  refine ⟨_, rfl, ?_⟩
  refine at_call (WConsensus_c _ (by omega) (by omega) hiv.1) ?_
  rintro v w7 ⟨e, rfl, rfl⟩
  refine ⟨_, _, rfl, ?_⟩
  have hcw : cwOf 1 1 (iv n) = cw 1 1 (iv n) := by unfold cwOf; rw [if_pos (by omega)]
  rw [hcw]
  refine buf_set (New.blk hn6 hz5) (hn5.new hn6) hbl (by decide) (by simp [regAt]; omega) (by simp) ?_
  intro ad w8 hz8 hn8
  have hf0 : (((List.replicate (lines * 8) 0).set (Int.toNat 0) 1).set (Int.toNat 1) 1).set (regAt 1 16 0).toNat (cw 1 1 (iv n)) = fmt0 lines n := rfl
  rw [hf0] at hz8
  have hlen0 : (fmt0 lines n).length = lines * 8 := by simp [fmt0]
  have hw0 : Words64 (fmt0 lines n) := ((Words64.set (Words64.set (fun x hx => by simp at hx; omega) (by omega) _) (by omega) _).set (cw_one h5) _)
  clear hf0 hz2 hz4 hz5 hn2 hn4 hn5 hn6
  refine loop_rule mix (fun m env u => ∃ (c : Nat) (ws : List Int) (jj : List Value), m = 6 - c ∧ c ≤ 6 ∧ env = layout_Format_env1 ⟨b, 0, none⟩ (some ⟨b1, 0, none⟩) (lines * 8) (lines * 8) c jj ∧ Blk u b1 (us ws) TU64 ∧ New w1 u ∧ ws.length = lines * 8 ∧ Words64 ws ∧ doorsAt (6 - c) c ws = doorsAt 6 0 (fmt0 lines n)) 6
    ⟨0, _, _, rfl, by omega, rfl, hz8, hn8, hlen0, hw0, rfl⟩ ?_
  rintro m env u ⟨c, ws, jj, rfl, hc, rfl, hz, hn, hlen, hw, hds⟩
  rw [layout_Format_loop1_body]
  refine bif_dec (fun hp => ?_) (fun hp => ?_)
  · refine at_call (Door_c _ _) ?_
    rintro v u1 ⟨rfl, hnu⟩
    have hreg : regAt 3 6 (c : Int) = 24 + c := by unfold regAt; rw [if_neg (by omega)]; omega
    refine ⟨_, rfl, ?_⟩
    rw [hreg]
    refine buf_set (New.blk hnu hz) (hn.new hnu) hbl (by omega) (by omega) (by omega) ?_
    intro ad u2 hz2 hn2
    rw [w64 (by omega) (by omega)]
    refine ⟨6 - (c + 1), by omega, c + 1, _, _, rfl, by omega, rfl, hz2, hn2, by simpa using hlen, hw.set (by omega) _, ?_⟩
    rw [show 6 - c = 6 - (c + 1) + 1 by omega, doorsAt] at hds
    rw [show Int.toNat (24 + (c : Int)) = 24 + c by omega]
    exact hds
  · have hc6 : c = 6 := by omega
    subst hc6
    rw [layout_Format_aft1_vc]
    rw [Nat.sub_self, doorsAt] at hds
    have hf : pagesAt (lines - 96) 96 ws = fmt lines n := by rw [fmt, ← hds]
    clear hds
    refine loop_rule mix (fun m env u => ∃ (c : Nat) (ws : List Int) (jj : List Value), m = lines - c ∧ 96 ≤ c ∧ c ≤ lines ∧ env = layout_Format_env2 ⟨b, 0, none⟩ (some ⟨b1, 0, none⟩) (lines * 8) (lines * 8) c jj ∧ Blk u b1 (us ws) TU64 ∧ New w1 u ∧ ws.length = lines * 8 ∧ Words64 ws ∧ pagesAt (lines - c) c ws = fmt lines n) (lines - 96)
      ⟨96, _, _, rfl, by omega, by omega, rfl, hz, hn, hlen, hw, hf⟩ ?_
    clear hf hz hn hlen hw hz8 hn8 hp hc
    rintro m env u ⟨c, ws, jj, rfl, hc, hcl, rfl, hz, hn, hlen, hw, hds⟩
    rw [layout_Format_loop2_body]
    refine at_call (Lines_c (h.new hn)) ?_
    rintro v u1 ⟨rfl, rfl⟩
    refine ⟨_, rfl, ?_⟩
    rw [hdiv]
    refine bif_dec (fun hp => ?_) (fun hp => ?_)
    · refine at_call (Page_c _ (by omega) (by omega)) ?_
      rintro v u2 ⟨rfl, rfl⟩
      refine ⟨_, rfl, ?_⟩
      refine at_call (Header1_c _) ?_
      rintro v u2 ⟨rfl, rfl⟩
      refine ⟨_, _, rfl, ?_⟩
      refine buf_set hz hn hbl (by omega) (by omega) (by omega) ?_
      intro ad u2 hz2 hn2
      rw [w64 (by omega) (by omega)]
      refine ⟨lines - (c + 1), by omega, c + 1, _, _, rfl, by omega, by omega, rfl, hz2, hn2, by simpa using hlen, hw.set (by omega) _, ?_⟩
      rw [show lines - c = lines - (c + 1) + 1 by omega, pagesAt] at hds
      rw [show Int.toNat ((c : Int) * 8) = c * 8 by omega]
      exact hds
    · have hc6 : c = lines := by omega
      subst hc6
      rw [layout_Format_aft2_vc]
      rw [Nat.sub_self, pagesAt] at hds
      rw [← hlen]
      refine at_call (Write_c (h.new hn) 0 (rd_blk hz (by rw [List.drop_zero]; exact List.take_of_length_le (Nat.le_refl _))) hw (fun h => by cases h)) ?_
      rintro v u3 ⟨rfl, hnode, hk⟩
      have hchk : s.chk 0 ws.length = 0 := by
        unfold NodeS.chk
        rw [if_neg (by omega), if_neg (by simp [hd])]
      rw [hchk] at hnode ⊢
      rw [if_pos rfl] at hnode
      refine ⟨_, rfl, rfl, ?_, (Keep.of_new hn).trans hk (fun _ _ h => h)⟩
      have : s.write (Int.toNat 0) ws = ⟨fmt c n, false⟩ := by
        unfold NodeS.write
        rw [← hds]
        simp [hd, hl, hlen]
      rw [← this]
      exact hnode

theorem doors_len : ∀ (k c : Nat) (ws : List Int), (doorsAt k c ws).length = ws.length
  | 0, _, _ => rfl
  | k + 1, c, ws => by rw [doorsAt, doors_len]; simp
theorem pages_len : ∀ (k c : Nat) (ws : List Int), (pagesAt k c ws).length = ws.length
  | 0, _, _ => rfl
  | k + 1, c, ws => by rw [pagesAt, pages_len]; simp
theorem fmt_len (lines n : Nat) : (fmt lines n).length = lines * 8 := by rw [fmt, pages_len, doors_len]; simp [fmt0]

/-- All nodes formatted. -/
def Fab.fmt (F : Fab) : Fab := { F with nodes := F.nodes.map fun _ => ⟨Go.Proofs.YteaknokogenndaaGreat.fmt F.lines F.nodes.length, false⟩ }

def FabFresh (F : Fab) : Prop := 98 ≤ F.lines ∧ F.lines ≤ 256 ∧ 1 ≤ F.nodes.length ∧ F.nodes.length ≤ 5 ∧ ∀ n ∈ F.nodes, n.words.length = F.lines * 8 ∧ n.down = false

theorem pure_nodes_len (X : FabX) : X.pure.nodes.length = X.nodes.length := by simp [FabX.pure]

theorem FormatAll_c {A : Nat → Prop} {χ : Nat → Tag} {w : World} {fb : Nat} {X : FabX} (h : FabAt A χ w fb X) (hf : FabFresh X.pure) :
    Does 31 [ptr fb] w fun v w' => v = .int .i64 0 ∧ FPost A χ w fb X.pure.fmt w' fun _ => True := by
  obtain ⟨f1, f2, f3, f4, f5⟩ := hf
  rw [pure_nodes_len] at f3 f4
  refine does Tryz.func31 ?_
  rw [ptr, layout_FormatAll_vc]
  refine at_call (Nodes_c h) ?_
  rintro v w1 ⟨rfl, rfl⟩
  refine ⟨_, rfl, ?_⟩
  let NN : Nat := X.nodes.length
  refine loop_rule mix (fun m env u => ∃ (i : Nat) (A' : Nat → Prop) (χ' : Nat → Tag) (X' : FabX) (jj : List Value), m = NN - i ∧ i ≤ NN ∧ env = layout_FormatAll_env1 ⟨fb, 0, none⟩ NN i jj ∧ Next A A' χ χ' w1 u ∧ FabAt A' χ' u fb X' ∧ X'.nodes.length = NN ∧ X'.lines = X.lines ∧ (∀ x ∈ X'.nodes, x.n.words.length = X.lines * 8 ∧ x.n.down = false) ∧
      X'.pure = { X.pure with nodes := List.replicate i ⟨fmt X.lines NN, false⟩ ++ X.pure.nodes.drop i }) NN
    ⟨0, A, χ, X, _, rfl, by omega, rfl, h.refl (Keep.refl _ _), h, rfl, rfl, fun x hx => f5 x.n (List.mem_map.2 ⟨x, hx, rfl⟩), by simp⟩ ?_
  rintro m env u ⟨i, A', χ', X', jj, rfl, hi, rfl, hnx, hF, hXn, hXl, hXw, hXp⟩
  rw [layout_FormatAll_loop1_body]
  refine bif_dec (fun hp => ?_) (fun hp => ?_)
  · have hlt : i < X'.nodes.length := by omega
    obtain ⟨x, hx⟩ : ∃ x, X'.nodes[i]? = some x := ⟨_, List.getElem?_eq_getElem hlt⟩
    refine at_call (Node_some hF hx) ?_
    rintro v u1 ⟨rfl, rfl⟩
    refine ⟨_, rfl, ?_⟩
    refine at_call (Nodes_c hF) ?_
    rintro v u1 ⟨rfl, rfl⟩
    refine ⟨_, rfl, ?_⟩
    obtain ⟨hw1, hw2⟩ := hXw x (List.mem_of_getElem? hx)
    rw [hXn]
    refine at_call (Format_c (hF.node i x hx).node hw1 f1 f2 hw2 (by show 1 ≤ NN; omega) (by show NN ≤ 5; omega)) ?_
    rintro v u2 ⟨rfl, hnode, hk⟩
    refine ⟨_, rfl, bif_f rfl ?_⟩
    obtain ⟨A2, hnx2, hF2⟩ := hF.setNode hx (hk.mono fun k _ e => .inr e) hnode
    rw [w64 (by omega) (by omega)]
    refine ⟨NN - (i + 1), by omega, i + 1, A2, χ', _, _, rfl, by omega, rfl, hnx.trans hnx2, hF2, by simpa using hXn, hXl, ?_, ?_⟩
    · intro y hy
      rcases List.mem_or_eq_of_mem_set hy with hy | rfl
      · exact hXw y hy
      · refine ⟨?_, rfl⟩
        have := hnode.len
        show (fmt X.lines NN).length = _
        rw [fmt_len]
    · have hlen : X.pure.nodes.length = NN := pure_nodes_len X
      have e1 : X'.pure.nodes = List.replicate i ⟨fmt X.lines NN, false⟩ ++ X.pure.nodes.drop i := by rw [hXp]
      have e2 : X'.nodes.map NodeX.n = List.replicate i ⟨fmt X.lines NN, false⟩ ++ X.pure.nodes.drop i := e1
      have e3 : ({ X' with nodes := X'.nodes.set i { x with n := ⟨fmt X.lines NN, false⟩ } } : FabX).pure = { X'.pure with nodes := (X'.nodes.map NodeX.n).set i ⟨fmt X.lines NN, false⟩ } := by
        simp [FabX.pure, List.map_set]
      rw [e3, e2, hXp]
      congr 1
      rw [List.set_append_right _ _ (by simp)]
      simp only [List.length_replicate, Nat.sub_self]
      rw [List.replicate_succ', List.append_assoc]
      congr 1
      rw [List.drop_eq_getElem_cons (by omega)]
      rfl
  · have hiN : i = NN := by omega
    subst hiN
    rw [layout_FormatAll_aft1_vc]
    refine ⟨rfl, A', χ', X', hnx, hF, ?_, trivial⟩
    rw [hXp]
    unfold Fab.fmt
    have hlen : X.pure.nodes.length = NN := pure_nodes_len X
    congr 1
    rw [List.drop_of_length_le (by omega), List.append_nil, hlen, ← hlen]
    rw [List.map_const']
    rfl

theorem FNew_fresh {n c lines : Nat} (hn : 1 ≤ n ∧ n ≤ 5) (hl : 98 ≤ lines ∧ lines ≤ 256) : FabFresh (Fab.init n c lines) := by
  refine ⟨hl.1, hl.2, by simp [Fab.init]; omega, by simp [Fab.init]; omega, ?_⟩
  intro x hx
  simp [Fab.init] at hx
  rw [hx.2]
  simp [zeroNode, Fab.init]
  omega

/-- A fresh, formatted fabric. -/
def Fab.fresh (n c lines : Nat) : Fab := ⟨lines, List.replicate n ⟨Go.Proofs.YteaknokogenndaaGreat.fmt lines n, false⟩, (List.range c).map (bornC n), []⟩

theorem init_fmt (n c lines : Nat) : (Fab.init n c lines).fmt = Fab.fresh n c lines := by simp [Fab.fmt, Fab.init, Fab.fresh]

theorem Fresh_c {w : World} {n c lines : Nat} (hn : 1 ≤ n ∧ n ≤ 5) (hc : 1 ≤ c ∧ c ≤ 6) (hl : 98 ≤ lines ∧ lines ≤ 256) : Does 15 [.int .i64 n, .int .i64 c, .int .i64 lines] w fun v w' =>
    ∃ fb A χ X, v = .tuple #[ptr fb, .bool true] ∧ FabAt A χ w' fb X ∧ New w w' ∧ (∀ k, A k → w.heap.size ≤ k) ∧ X.pure = Fab.fresh n c lines := by
  refine does Tryz.func15 ?_
  rw [bodegarun_Fresh_vc]
  refine at_call (FNew_c hn hc ⟨by omega, hl.2⟩) ?_
  rintro v w1 ⟨fb, A, χ, X, rfl, hF, hn1, hA, hX⟩
  refine ⟨_, _, rfl, bif_f rfl (bif_f rfl ?_)⟩
  refine at_call (FormatAll_c hF (by rw [hX]; exact FNew_fresh hn hl)) ?_
  rintro v w2 ⟨rfl, A', χ', X', hnx, hF', hX', _⟩
  refine ⟨_, rfl, bif_f rfl ⟨fb, A', χ', X', rfl, hF', ?_, ?_, ?_⟩⟩
  · refine hn1.trans hnx.keep (fun k hk hA' => ?_)
    have := hA k (hF.avoid k hA')
    omega
  · intro k hk
    by_cases hlt : k < w1.heap.size
    · rcases (hnx.iff k).1 hk with hc | hc
      · exact hA k (hF.avoid k (hnx.grow k hlt hc))
      · exact hA k hc.2.1
    · have := hn1.size; omega
  · rw [hX', hX, init_fmt]

theorem Pick_c (w : World) (x n : Int) (hx : -9223372036854775808 ≤ x ∧ x < 9223372036854775808) (hn : n < 4611686018427387904) : Does 14 [.int .i64 x, .int .i64 n] w fun v w' => v = .int .i64 (if n < 1 then 0 else x % n) ∧ w' = w := by
  refine does Tryz.func14 ?_
  rw [bodegahand_Pick_vc]
  refine bif_dec (fun h => ⟨by rw [if_pos h], rfl⟩) (fun h => ⟨rfl, by omega, rfl, by omega, ?_, rfl⟩)
  rw [if_neg h]
  have h1 : 0 < n := by omega
  have key : ∃ t k, Int.tmod x n = t ∧ -n < t ∧ t < n ∧ t + n * k = x := by
    rcases Int.le_total 0 x with hx0 | hx0
    · refine ⟨x % n, x / n, Int.tmod_eq_emod_of_nonneg hx0, ?_, Int.emod_lt_of_pos x h1, Int.emod_add_mul_ediv x n⟩
      have := Int.emod_nonneg x (Int.ne_of_gt h1)
      omega
    · refine ⟨-((-x) % n), -((-x) / n), ?_, ?_, ?_, ?_⟩
      · rw [← Int.tmod_eq_emod_of_nonneg (by omega), Int.neg_tmod, Int.neg_neg]
      · have := Int.emod_lt_of_pos (-x) h1
        omega
      · have := Int.emod_nonneg (-x) (Int.ne_of_gt h1)
        omega
      · have := Int.emod_add_mul_ediv (-x) n
        rw [Int.mul_neg]
        omega
  obtain ⟨t, k, ht, h2, h3, hk⟩ := key
  rw [ht, w64 (by omega) (by omega)]
  congr 1
  rw [Int.tmod_eq_emod_of_nonneg (by omega), Int.add_emod_right, ← hk, Int.add_mul_emod_self_left]

theorem Word_c {A : Nat → Prop} {χ : Nat → Tag} {w : World} {fb : Nat} {X : FabX} (h : FabAt A χ w fb X) {i : Nat} {x : NodeX} (hx : X.nodes[i]? = some x) {at_ : Nat} (hat : at_ < x.n.words.length) (hd : x.n.down = false) :
    Does 26 [ptr fb, .int .i64 i, .int .i64 at_] w fun v w' => v = .tuple #[.int .u64 (x.n.get at_), .bool true] ∧ New w w' := by
  refine does Tryz.func26 ?_
  rw [ptr, bodegarun_Word_vc]
  refine at_call (Node_some h hx) ?_
  rintro v u1 ⟨rfl, rfl⟩
  refine ⟨_, rfl, bif_f rfl ?_⟩
  refine at_call (Read_c (h.node i x hx).node at_ 1) ?_
  have hchk : x.n.chk at_ 1 = 0 := by
    unfold NodeS.chk
    rw [if_neg (by omega), if_neg (by simp [hd])]
  rintro v u2 (⟨hc, _⟩ | ⟨_, a, cap, rfl, hn, ho, _⟩)
  · exact absurd hchk hc
  have hr := ho.rd
  have hg : x.n.read at_ 1 = [x.n.get at_] := by
    unfold NodeS.read
    have hs : x.n.words[at_]? = some (x.n.get at_) := NodeS.get_some hat
    simp only [Int.toNat_natCast]
    rw [List.drop_eq_getElem_cons hat]
    have : x.n.words[at_] = x.n.get at_ := by
      rw [List.getElem?_eq_getElem hat] at hs
      exact Option.some.inj hs
    rw [this]
    rfl
  rw [hg] at hr
  rcases hr with hr | ⟨b, o, he, hcell⟩
  · cases hr
  simp at he
  subst he
  refine ⟨_, _, _, _, rfl, bif_f rfl (bif_f rfl (idxS_mk (by omega) (by decide) ?_))⟩
  have := hcell 0 _ rfl
  refine ⟨_, this, rfl, hn⟩
end Go.Proofs.YteaknokogenndaaGreat
