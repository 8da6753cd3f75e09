import Derived.Test.YteaknokogenndaaGreatLawM
/- The plain law behind PaxosStays: lone proposers, one after the other. -/
set_option linter.unusedVariables false
namespace Go.Proofs.YteaknokogenndaaGreat
open Go.Eng

/-! ### Counting -/

def cnt (p : NodeS → Bool) (N : List NodeS) : Nat := (N.filter p).length

theorem ups_cnt (a : Nat) : ∀ (N : List NodeS) (i : Nat), (upsFrom a i N).length = cnt (fun n => !n.down) N
  | [], _ => rfl
  | n :: N, i => by
    unfold upsFrom cnt
    cases hd : n.down with
    | true => simp [hd]; exact ups_cnt a N (i + 1)
    | false => simp [hd]; exact ups_cnt a N (i + 1)

def isCand (a : Nat) (b : Int) (n : NodeS) : Bool := !n.down && decide (cwP (n.get a) < b)

theorem cands_cnt (a : Nat) (b : Int) : ∀ (N : List NodeS) (i : Nat), (candOf b (upsFrom a i N)).length = cnt (isCand a b) N
  | [], _ => rfl
  | n :: N, i => by
    unfold upsFrom cnt isCand
    cases hd : n.down with
    | true => simp [hd]; exact cands_cnt a b N (i + 1)
    | false =>
      by_cases hb : cwP (n.get a) < b
      · simp [hd, hb, candOf]; exact cands_cnt a b N (i + 1)
      · simp [hd, hb, candOf]; exact cands_cnt a b N (i + 1)

theorem cnt_le (p : NodeS → Bool) (N : List NodeS) : cnt p N ≤ N.length := List.length_filter_le _ _

theorem cnt_mono {p q : NodeS → Bool} : ∀ {N : List NodeS}, (∀ n ∈ N, p n = true → q n = true) → cnt p N ≤ cnt q N
  | [], _ => Nat.le_refl _
  | n :: N, h => by
    have ih := cnt_mono (p := p) (q := q) (N := N) fun m hm => h m (List.mem_cons_of_mem _ hm)
    have h1 := h n List.mem_cons_self
    unfold cnt at *
    cases hp : p n with
    | true => rw [List.filter_cons_of_pos (by simpa using hp), List.filter_cons_of_pos (by simpa using h1 hp)]; simp; omega
    | false =>
      rw [List.filter_cons_of_neg (by simp [hp])]
      cases hq : q n with
      | true => rw [List.filter_cons_of_pos (by simpa using hq)]; simp; omega
      | false => rw [List.filter_cons_of_neg (by simp [hq])]; exact ih

theorem cnt_not (p : NodeS → Bool) : ∀ (N : List NodeS), cnt p N + cnt (fun n => !p n) N = N.length
  | [] => rfl
  | n :: N => by
    have ih := cnt_not p N
    unfold cnt at *
    cases hp : p n with
    | true => rw [List.filter_cons_of_pos (by simpa using hp), List.filter_cons_of_neg (by simp [hp])]; simp; omega
    | false => rw [List.filter_cons_of_neg (by simp [hp]), List.filter_cons_of_pos (by simp [hp])]; simp; omega

theorem cnt_map (p : NodeS → Bool) (f : NodeS → NodeS) (N : List NodeS) : cnt p (N.map f) = cnt (fun n => p (f n)) N := by
  unfold cnt
  rw [List.filter_map, List.length_map]
  rfl

/-- Two majorities meet. -/
theorem cnt_meet {p q : NodeS → Bool} {N : List NodeS} (h : N.length < cnt p N + cnt q N) : ∃ n ∈ N, p n = true ∧ q n = true := by
  by_cases hc : ∃ n ∈ N, p n = true ∧ q n = true
  · exact hc
  · exfalso
    have h1 : cnt p N ≤ cnt (fun n => !q n) N := cnt_mono fun n hn hp => by
      cases hq : q n with
      | true => exact absurd ⟨n, hn, hp, hq⟩ hc
      | false => rfl
    have h2 := cnt_not q N
    omega

/-! ### The value -/

theorem valueGo_all {V : Int} : ∀ (l : List Acc) (v g : Int), 0 ≤ g → (0 < g → v = V) → (∀ x ∈ l, 0 < cwA x.word → cwV x.word = V) → (0 < g ∨ ∃ x ∈ l, 0 < cwA x.word) → valueGo l v g = V
  | [], v, g, _, h2, _, h4 => by
    rcases h4 with h4 | ⟨x, hx, _⟩
    · exact h2 h4
    · cases hx
  | x :: l, v, g, h1, h2, h3, h4 => by
    have h3' : ∀ y ∈ l, 0 < cwA y.word → cwV y.word = V := fun y hy => h3 y (List.mem_cons_of_mem _ hy)
    have hA := (cwA_in x.word).1
    unfold valueGo
    split
    · rename_i hlt
      exact valueGo_all l _ _ hA (fun _ => h3 x List.mem_cons_self (by omega)) h3' (.inl (by omega))
    · rename_i hlt
      refine valueGo_all l v g h1 h2 h3' ?_
      rcases h4 with h4 | ⟨y, hy, hy2⟩
      · exact .inl h4
      · rcases List.mem_cons.1 hy with rfl | hy
        · exact .inl (by omega)
        · exact .inr ⟨y, hy, hy2⟩

/-! ### The invariant of lone proposers -/

/-- What a word of the consensus is, if V is the value that was decided (none: no value was). -/
def WordIs (V : Option Int) (w : Int) : Prop := w = 0 ∨ ∃ b v, V = some v ∧ 1 ≤ b ∧ b < 4096 ∧ 1 ≤ v ∧ v < 1099511627776 ∧ w = cw b b v

def hasVal (a : Nat) (n : NodeS) : Bool := decide (n.get a ≠ 0)

structure SInv (a : Nat) (V : Option Int) (N : List NodeS) : Prop where
  word : ∀ n ∈ N, WordIs V (n.get a)
  maj : V ≠ none → N.length / 2 + 1 ≤ cnt (hasVal a) N
  door : ∀ n ∈ N, ∀ c, c < 6 → n.get (24 + c) = 1

theorem WordIs.none {w : Int} (h : WordIs none w) : w = 0 := by
  rcases h with h | ⟨_, _, h, _⟩
  · exact h
  · cases h

theorem WordIs.acc {v w : Int} (h : WordIs (some v) w) : (w = 0 ∧ cwA w = 0) ∨ (w ≠ 0 ∧ 0 < cwA w ∧ cwV w = v) := by
  rcases h with rfl | ⟨b, v', hv, h1, h2, h3, h4, rfl⟩
  · exact .inl ⟨rfl, by decide⟩
  · cases hv
    refine .inr ⟨?_, ?_, ?_⟩
    · unfold cw; omega
    · rw [cwA_cw (by omega) (by omega)]; omega
    · exact cwV_cw (by omega) (by omega)

theorem promise_split {b w : Int} (hb : 0 ≤ b ∧ b < 4096) : cwA (promiseW b w) = cwA w ∧ cwV (promiseW b w) = cwV w := by
  have h1 := cwA_in w
  have h2 := cwV_in w
  unfold promiseW cwOf
  rw [if_pos (by omega)]
  exact ⟨cwA_cw h1 h2, cwV_cw h1 h2⟩

/-- The value that a lone proposer with a majority proposes: the one that was decided, or its own. -/
theorem stay_val {a : Nat} {V : Option Int} {N : List NodeS} (h : SInv a V N) {b : Int} (hb : 0 ≤ b ∧ b < 4096) (hc : N.length / 2 + 1 ≤ (candsOf a b N).length) (v : Int) : valOf a b N v = V.getD v := by
  unfold valOf
  cases V with
  | none =>
    refine valueGo_zero _ _ fun y hy => ?_
    obtain ⟨x, hx, rfl⟩ := List.mem_map.1 hy
    obtain ⟨k, n, g1, g2, g3, rfl⟩ := cands_mem hx
    show cwA (promiseW b (n.get a)) = 0
    rw [(promise_split hb).1, (h.word n (List.mem_of_getElem? g1)).none]
    decide
  | some V =>
    refine valueGo_all _ _ _ (by omega) (fun h => by omega) (fun y hy hy2 => ?_) (.inr ?_)
    · obtain ⟨x, hx, rfl⟩ := List.mem_map.1 hy
      obtain ⟨k, n, g1, g2, g3, rfl⟩ := cands_mem hx
      have hy3 : 0 < cwA (promiseW b (n.get a)) := hy2
      show cwV (promiseW b (n.get a)) = V
      rw [(promise_split hb).1] at hy3
      rw [(promise_split hb).2]
      rcases (h.word n (List.mem_of_getElem? g1)).acc with g | g
      · omega
      · exact g.2.2
    · have h1 := h.maj (by simp)
      have h2 : (candsOf a b N).length = cnt (isCand a b) N := cands_cnt a b N 0
      obtain ⟨n, hn, hp, hq⟩ := cnt_meet (p := isCand a b) (q := hasVal a) (N := N) (by omega)
      obtain ⟨k, hk⟩ := List.mem_iff_getElem?.1 hn
      have hcd : n.down = false ∧ cwP (n.get a) < b := by unfold isCand at hp; simpa using hp
      refine ⟨⟨(k : Int), promiseW b (n.get a)⟩, List.mem_map.2 ⟨_, cands_of hk hcd.1 hcd.2, rfl⟩, ?_⟩
      show 0 < cwA (promiseW b (n.get a))
      rw [(promise_split hb).1]
      have hne : n.get a ≠ 0 := by unfold hasVal at hq; simpa using hq
      rcases (h.word n hn).acc with g | g
      · exact absurd g.1 hne
      · exact g.2.1

/-- A lone proposer that decides leaves the invariant. -/
theorem stay_upd {a : Nat} {V : Option Int} {N : List NodeS} (h : SInv a V N) (ha : a < 24) (hlen : ∀ n ∈ N, a < n.words.length) {b : Int} (hb : 1 ≤ b ∧ b < 4096) (hc : N.length / 2 + 1 ≤ (candsOf a b N).length) {v : Int} (hv : 1 ≤ v ∧ v < 1099511627776) (hV : V = none ∨ V = some v) :
    SInv a (some v) (N.map (upd a b (cwOf b b v))) := by
  have hcw : cwOf b b v = cw b b v := by unfold cwOf; rw [if_pos (by omega)]
  have hcw0 : cw b b v ≠ 0 := by unfold cw; omega
  have hget : ∀ n ∈ N, (upd a b (cwOf b b v) n).get a = if isCand a b n then cw b b v else n.get a := by
    intro n hn
    unfold upd isCand
    by_cases hcd : n.down = false ∧ cwP (n.get a) < b
    · rw [if_pos hcd, hcw, nget_self (hlen n hn)]
      simp [hcd.1, hcd.2]
    · rw [if_neg hcd]
      have : (!n.down && decide (cwP (n.get a) < b)) = false := by
        cases hd : n.down with
        | true => rfl
        | false => simp; exact Int.not_lt.1 fun hh => hcd ⟨hd, hh⟩
      rw [this]
      rfl
  refine ⟨fun m hm => ?_, fun _ => ?_, fun m hm c hcc => ?_⟩
  · obtain ⟨n, hn, rfl⟩ := List.mem_map.1 hm
    rw [hget n hn]
    split
    · exact .inr ⟨b, v, rfl, hb.1, hb.2, hv.1, hv.2, rfl⟩
    · rcases h.word n hn with g | ⟨b', v', g1, g⟩
      · exact .inl g
      · rcases hV with rfl | rfl
        · cases g1
        · exact .inr ⟨b', v', g1, g⟩
  · rw [List.length_map, cnt_map]
    have h2 : (candsOf a b N).length = cnt (isCand a b) N := cands_cnt a b N 0
    have h3 : cnt (isCand a b) N ≤ cnt (fun n => hasVal a (upd a b (cwOf b b v) n)) N := cnt_mono fun n hn hp => by
      unfold hasVal
      rw [hget n hn, hp]
      simpa using hcw0
    omega
  · obtain ⟨n, hn, rfl⟩ := List.mem_map.1 hm
    unfold upd
    split
    · rw [nget_ne (by omega)]; exact h.door n hn c hcc
    · exact h.door n hn c hcc
end Go.Proofs.YteaknokogenndaaGreat
/- The plain law behind PaxosStays: a fabric of lone proposers. -/
set_option linter.unusedVariables false
namespace Go.Proofs.YteaknokogenndaaGreat
open Go.Eng

theorem setN_some {F : Fab} {k : Nat} {m : NodeS} (h : F.nodes[k]? = some m) (f : NodeS → NodeS) : F.setN k f = { F with nodes := F.nodes.set k (f m) } := by
  unfold Fab.setN
  rw [h]

theorem map_set_same {g : NodeS → Int} {N : List NodeS} {k : Nat} {m m' : NodeS} (h : N[k]? = some m) (hg : g m' = g m) : (N.set k m').map g = N.map g := by
  apply List.ext_getElem?
  intro i
  rw [List.getElem?_map, List.getElem?_map, List.getElem?_set]
  by_cases hi : k = i
  · subst hi
    have := lt_of_get h
    rw [if_pos rfl, if_pos this, h]
    simp [hg]
  · rw [if_neg hi]

theorem cnt_val (a : Nat) (N : List NodeS) : cnt (hasVal a) N = ((N.map fun n => n.get a).filter fun x => decide (x ≠ 0)).length := by
  unfold cnt
  rw [List.filter_map, List.length_map]
  rfl

theorem SInv.set {a : Nat} {V : Option Int} {N : List NodeS} (h : SInv a V N) {k : Nat} {m m' : NodeS} (hk : N[k]? = some m) (ha : a ≠ 1) (hg : ∀ j, j ≠ 1 → m'.get j = m.get j) : SInv a V (N.set k m') := by
  have hm := List.mem_of_getElem? hk
  refine ⟨fun n hn => ?_, fun hv => ?_, fun n hn c hc => ?_⟩
  · rcases List.mem_or_eq_of_mem_set hn with hn | rfl
    · exact h.word n hn
    · rw [hg a ha]; exact h.word m hm
  · rw [List.length_set, cnt_val, map_set_same hk (hg a ha), ← cnt_val]
    exact h.maj hv
  · rcases List.mem_or_eq_of_mem_set hn with hn | rfl
    · exact h.door n hn c hc
    · rw [hg _ (by omega)]; exact h.door m hm c hc

theorem cnt_set (p : NodeS → Bool) : ∀ (N : List NodeS) (k : Nat) (m : NodeS), cnt p (N.set k m) ≤ cnt p N + 1
  | [], _, _ => by simp [cnt]
  | n :: N, 0, m => by
    unfold cnt
    rw [List.set_cons_zero, List.filter_cons, List.filter_cons]
    split <;> split <;> simp <;> omega
  | n :: N, k + 1, m => by
    have ih := cnt_set p N k m
    unfold cnt at *
    rw [List.set_cons_succ, List.filter_cons, List.filter_cons]
    split <;> simp <;> omega

/-! ### The fabric between two proposers -/

structure Base (n : Nat) (V : Option Int) (F : Fab) : Prop where
  fine : Fine F
  quiet : Quiet F
  lines : F.lines = 98
  len : F.nodes.length = n
  cls : ∀ c, c < 6 → ∃ C, F.clients[c]? = some C ∧ C.alive = true ∧ C.batch = none ∧ C.inc = 1
  inv : SInv 11 V F.nodes

theorem Base.setN {n : Nat} {V : Option Int} {F : Fab} (h : Base n V F) (k : Nat) {f : NodeS → NodeS} (hl : ∀ m, (f m).words.length = m.words.length) (hg : ∀ m j, j ≠ 1 → (f m).get j = m.get j) : Base n V (F.setN k f) := by
  cases hk : F.nodes[k]? with
  | none => unfold Fab.setN; rw [hk]; exact h
  | some m =>
    have hf := h.fine.setN' k hl
    rw [setN_some hk] at hf ⊢
    exact ⟨hf, ⟨h.quiet.orph, h.quiet.idle⟩, h.lines, by show (F.nodes.set k (f m)).length = n; rw [List.length_set]; exact h.len, h.cls, h.inv.set hk (by omega) (hg m)⟩

theorem back_get (m : NodeS) (j : Nat) (hj : j ≠ 1) : (backN m).get j = m.get j := by
  unfold backN NodeS.back
  split
  · exact nget_ne (n := { m with down := false }) (by omega)
  · rfl

/-- All nodes ahead of k are up again. -/
structure Backs (n i : Nat) (V : Option Int) (k : Nat) (F : Fab) : Prop where
  base : Base n V F
  boot : ∀ q m, F.nodes[q]? = some m → m.get 1 ≤ (i : Int) + 1 + (if q < k then 1 else 0) ∧ (q < k → m.down = false)

theorem Backs.step {n i : Nat} {V : Option Int} {k : Nat} {F : Fab} (h : Backs n i V k F) (hk : k < n) (hi : i < 20) : Backs n i V (k + 1) (F.setN k backN) := by
  refine ⟨h.base.setN k backN_len back_get, fun q m hq => ?_⟩
  have hlk : k < F.nodes.length := by rw [h.base.len]; exact hk
  obtain ⟨x, hx⟩ : ∃ x, F.nodes[k]? = some x := ⟨_, List.getElem?_eq_getElem hlk⟩
  rw [setN_some hx] at hq
  have hq2 : (F.nodes.set k (backN x))[q]? = some m := hq
  rw [List.getElem?_set] at hq2
  by_cases hqk : k = q
  · subst hqk
    rw [if_pos rfl, if_pos hlk] at hq2
    cases hq2
    obtain ⟨h1, h2⟩ := h.boot k x hx
    rw [if_neg (by omega)] at h1
    have hwl : x.words.length = F.lines * 8 := h.base.fine.good.ok.words x (List.mem_of_getElem? hx)
    have hln := h.base.lines
    rw [if_pos (by omega)]
    unfold backN NodeS.back
    by_cases hc : x.down = true ∧ x.get 1 < 31
    · rw [if_pos hc]
      refine ⟨?_, fun _ => rfl⟩
      show NodeS.get { words := x.words.set 1 (x.get 1 + 1), down := false } 1 ≤ _
      have := nget_self (n := { x with down := false }) (a := 1) (w := x.get 1 + 1) (by show 1 < x.words.length; omega)
      rw [show NodeS.get { words := x.words.set 1 (x.get 1 + 1), down := false } 1 = x.get 1 + 1 from this]
      omega
    · rw [if_neg hc]
      refine ⟨by show x.get 1 ≤ _; omega, fun _ => ?_⟩
      show x.down = false
      cases hd : x.down with
      | false => rfl
      | true => exact absurd ⟨hd, by omega⟩ hc
  · rw [if_neg hqk] at hq2
    obtain ⟨h1, h2⟩ := h.boot q m hq2
    refine ⟨?_, fun hlt => h2 (by omega)⟩
    by_cases hlt : q < k
    · rw [if_pos hlt] at h1
      rw [if_pos (by omega)]
      exact h1
    · rw [if_neg hlt] at h1
      rw [if_neg (by omega)]
      exact h1

/-- At most k nodes are down. -/
structure Fails (n i : Nat) (V : Option Int) (k : Nat) (F : Fab) : Prop where
  base : Base n V F
  boot : ∀ m ∈ F.nodes, m.get 1 ≤ (i : Int) + 2
  down : cnt (fun m => m.down) F.nodes ≤ k

theorem Backs.fails {n i : Nat} {V : Option Int} {F : Fab} (h : Backs n i V n F) : Fails n i V 0 F := by
  have hq : ∀ m ∈ F.nodes, m.get 1 ≤ (i : Int) + 2 ∧ m.down = false := by
    intro m hm
    obtain ⟨q, hq⟩ := List.mem_iff_getElem?.1 hm
    have hlt := lt_of_get hq
    rw [h.base.len] at hlt
    obtain ⟨h1, h2⟩ := h.boot q m hq
    rw [if_pos hlt] at h1
    exact ⟨by omega, h2 hlt⟩
  refine ⟨h.base, fun m hm => (hq m hm).1, ?_⟩
  unfold cnt
  rw [List.filter_eq_nil_iff.2 fun m hm => by rw [(hq m hm).2]; simp]
  exact Nat.le_refl _

theorem Fails.step {n i : Nat} {V : Option Int} {k : Nat} {F : Fab} (h : Fails n i V k F) (q : Nat) : Fails n i V (k + 1) (F.setN q failN) := by
  cases hq : F.nodes[q]? with
  | none => unfold Fab.setN; rw [hq]; exact ⟨h.base, h.boot, Nat.le_succ_of_le h.down⟩
  | some m =>
    refine ⟨h.base.setN q (fun _ => rfl) (fun _ _ _ => rfl), ?_, ?_⟩
    · rw [setN_some hq]
      intro x hx
      rcases List.mem_or_eq_of_mem_set hx with hx | rfl
      · exact h.boot x hx
      · exact h.boot m (List.mem_of_getElem? hq)
    · rw [setN_some hq]
      have := cnt_set (fun m => m.down) F.nodes q (failN m)
      have := h.down
      show cnt (fun m => m.down) (F.nodes.set q (failN m)) ≤ k + 1
      omega

def sJob (n c r i : Nat) : Job := ⟨n, 3, c, (r : Int) + 1, (i : Int) + 1⟩
def sTalk (n c r i : Nat) : Talk := ⟨2, c, sJob n c r i, [], false, false, 0, 0⟩

theorem sJob_valid {n c r i : Nat} (hn : 1 ≤ n ∧ n ≤ 5) (hc : c < 6) (hr : r < 20) (hi : i < 20) : (sJob n c r i).valid = 0 := by
  unfold Job.valid sJob
  dsimp only
  rw [if_neg (by omega), if_neg (by omega), if_neg (by omega), if_neg (by omega), if_neg (by omega)]

def okV (i : Nat) (V : Option Int) : Prop := ∀ v, V = some v → 1 ≤ v ∧ v ≤ (i : Int)

/-- A lone proposer with a minority down: it decides what was decided, or is told of a greater round. -/
theorem stay_run {n c r i : Nat} {V : Option Int} {F : Fab} (hn : 1 ≤ n ∧ n ≤ 5) (hodd : n % 2 = 1) (hc : c < 6) (hr : r < 20) (hi : i < 20) (hV : okV i V) (h : Fails n i V (n / 2) F) :
    ∃ F' t' V', alone F (sTalk n c r i) = (F', [t']) ∧ t'.over = true ∧ t'.bad = false ∧ ((t'.code = 8 ∧ V' = V) ∨ (t'.code = 0 ∧ t'.value = V.getD ((i : Int) + 1) ∧ V' = some t'.value)) ∧ okV (i + 1) V' ∧ Backs n (i + 1) V' 0 F' := by
  obtain ⟨C, hC, hal, hbt, hinc⟩ := h.base.cls c hc
  have hcalm : Calm c F C := ⟨h.base.fine, h.base.quiet, hC, hal, hbt⟩
  have hlen := h.base.len
  obtain ⟨F', C', t', he⟩ := lone hcalm (by rw [h.base.lines]; exact Nat.le_refl _) (t := sTalk n c r i) rfl rfl rfl (j := sJob n c r i) rfl (a := 11) (sJob_valid hn hc hr hi) (by rw [hlen]; rfl) (show regAt 1 16 3 = 11 by decide) (by omega) (b := ballot ((r : Int) + 1) c) rfl (fun m hm => by rw [h.base.inv.door m hm c hc, hinc]; exact Int.le_refl _)
  have hb : 1 ≤ ballot ((r : Int) + 1) c ∧ ballot ((r : Int) + 1) c < 4096 := by unfold ballot; omega
  have hmaj : majority (sJob n c r i).nodes = ((n / 2 + 1 : Nat) : Int) := by unfold majority sJob; dsimp only; rw [if_neg (by omega)]; omega
  have hups : n / 2 + 1 ≤ (upsFrom 11 0 F.nodes).length := by
    rw [ups_cnt]
    have h1 := cnt_not (fun m => m.down) F.nodes
    have h2 := h.down
    omega
  have hwl : ∀ m ∈ F.nodes, 11 < m.words.length := fun m hm => by
    have := h.base.fine.good.ok.words m hm
    have := h.base.lines
    omega
  have hcls : ∀ d, d < 6 → ∃ C, F'.clients[d]? = some C ∧ C.alive = true ∧ C.batch = none ∧ C.inc = 1 := by
    intro d hd
    by_cases hdc : d = c
    · subst hdc
      exact ⟨C', he.calm.cl, he.calm.alive, he.calm.batch, by rw [he.inc]; exact hinc⟩
    · rw [he.same.others d hdc]
      exact h.base.cls d hd
  have hbase : ∀ V', SInv 11 V' F'.nodes → Base n V' F' := fun V' hi => ⟨he.calm.fine, he.calm.quiet, he.same.lines.trans h.base.lines, he.same.nlen.trans hlen, hcls, hi⟩
  rcases he.out with ⟨h1, _⟩ | ⟨h1, h2, h3, h4⟩ | ⟨h1, h2, h3, h4, h5, _⟩
  · rw [hmaj] at h1; omega
  · refine ⟨F', t', V, he.run, he.over, he.bad, .inl ⟨h3, rfl⟩, fun v hv => by have := hV v hv; omega, hbase V (by rw [h4]; exact h.base.inv), fun q m hq => ?_⟩
    rw [h4] at hq
    rw [if_neg (by omega)]
    exact ⟨by have := h.boot m (List.mem_of_getElem? hq); omega, fun hlt => by omega⟩
  · rw [hmaj] at h2
    have hcn : F.nodes.length / 2 + 1 ≤ (candsOf 11 (ballot ((r : Int) + 1) c) F.nodes).length := by rw [hlen]; omega
    have hval := stay_val h.base.inv (b := ballot ((r : Int) + 1) c) (by omega) hcn (sJob n c r i).value
    rw [hval] at h4
    have hv1 : 1 ≤ V.getD ((i : Int) + 1) ∧ V.getD ((i : Int) + 1) ≤ (i : Int) + 1 := by
      cases V with
      | none => exact ⟨by show 1 ≤ (i : Int) + 1; omega, Int.le_refl _⟩
      | some v => have := hV v rfl; exact ⟨this.1, by show v ≤ _; omega⟩
    have h4' : t'.value = V.getD ((i : Int) + 1) := h4
    refine ⟨F', t', some t'.value, he.run, he.over, he.bad, .inr ⟨h3, h4', rfl⟩, fun v hv => ?_, hbase _ ?_, fun q m hq => ?_⟩
    · cases hv; rw [h4']; omega
    · rw [h5]
      have hacc : accOf 11 (ballot ((r : Int) + 1) c) F.nodes (sJob n c r i).value = cwOf (ballot ((r : Int) + 1) c) (ballot ((r : Int) + 1) c) t'.value := by
        unfold accOf
        rw [hval, h4]
      rw [hacc]
      refine stay_upd h.base.inv (by omega) hwl hb hcn (by rw [h4']; omega) ?_
      cases V with
      | none => exact .inl rfl
      | some v => exact .inr (by rw [h4']; rfl)
    · rw [h5, List.getElem?_map] at hq
      rw [if_neg (by omega)]
      refine ⟨?_, fun hlt => by omega⟩
      cases hx : F.nodes[q]? with
      | none => rw [hx] at hq; cases hq
      | some x =>
        rw [hx] at hq
        cases hq
        have h6 := h.boot x (List.mem_of_getElem? hx)
        unfold upd
        split
        · rw [nget_ne (by omega)]; omega
        · omega

theorem fmt_1 (n : Nat) : (n0 n).get 1 = 1 := by kernel_rfl
theorem fmt_11 (n : Nat) : (n0 n).get 11 = 0 := by kernel_rfl

theorem stay_start {n : Nat} (hn : 1 ≤ n ∧ n ≤ 5) : Backs n 0 none 0 (Fab.fresh n 6 98) := by
  have hm : ∀ m ∈ (Fab.fresh n 6 98).nodes, m = n0 n := fun m hm => List.eq_of_mem_replicate hm
  refine ⟨⟨Fine.fresh hn (by omega) (by omega), fresh_quiet n 6 98, rfl, List.length_replicate, fun c hc => ⟨_, fresh_born hc, rfl, rfl, rfl⟩, ?_⟩, fun q m hq => ?_⟩
  · refine ⟨fun m h => ?_, fun h => absurd rfl h, fun m h c hc => ?_⟩
    · rw [hm m h, fmt_11]; exact .inl rfl
    · rw [hm m h]; exact fmt_door n hc
  · rw [hm m (List.mem_of_getElem? hq), fmt_1, if_neg (by omega)]
    exact ⟨by omega, fun h => by omega⟩

theorem sTalk_val (n c r i : Nat) : (sTalk n c r i).val none 0 = .agg #[(.int .i64 2), (.int .i64 c), (.int .i64 n), (.int .i64 3), (.int .i64 c), (.int .i64 ((r : Int) + 1)), (.int .u64 ((i : Int) + 1)), (.slice none 0 0), (.bool false), (.bool false), (.int .i64 0), (.int .u64 0)] := rfl
theorem sTalk_tx (A : Nat → Prop) (u : World) {n c r i : Nat} (hi : i < 20) : TXAt A u ⟨sTalk n c r i, none, 0⟩ := ⟨GotAt.nil _ _ _, Nat.le_refl _, ⟨rfl, ⟨show (0 : Int) ≤ (i : Int) + 1 by omega, show (i : Int) + 1 < 18446744073709551616 by omega⟩, by simp [sTalk], fun _ => by simp [sTalk]⟩⟩
end Go.Proofs.YteaknokogenndaaGreat
