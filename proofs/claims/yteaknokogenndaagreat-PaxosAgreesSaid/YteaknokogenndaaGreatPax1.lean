/- Package paxos: its model, and contracts of its small functions. -/
import Derived.Test.YteaknokogenndaaGreatFmt
set_option linter.unusedVariables false
namespace Go.Proofs.YteaknokogenndaaGreat
open Go.Eng

/-! ### The model -/

structure Job where
  nodes : Int
  number : Int
  client : Int
  round : Int
  value : Int

structure Acc where
  node : Int
  word : Int

structure Out where
  code : Int
  value : Int
  round : Int

def wordOf (d : Done) : Int := d.words.headD 0

def Job.valid (j : Job) : Int :=
  if j.nodes < 1 ∨ 5 < j.nodes then 1 else if j.number < 0 ∨ 16 ≤ j.number then 2 else if ¬ (1 ≤ j.round ∧ j.round ≤ 500) then 2 else if ¬ (0 ≤ j.client ∧ j.client ≤ 5) then 1 else if j.value = 0 ∨ 1099511627776 ≤ j.value then 2 else 0

def majority (n : Int) : Int := if n < 1 then 0 else n / 2 + 1

def rdVerb (i at_ : Int) : Verb := { kind := 1, node := i, at_ := at_, n := 1, old := 0, new := 0, words := [], key := 0, boot := 0 }
def casVerb (i at_ old new : Int) : Verb := { kind := 3, node := i, at_ := at_, n := 0, old := old, new := new, words := [], key := 0, boot := 0 }

def Job.at_ (j : Job) : Int := regAt 1 16 j.number
def readAsk (j : Job) : List Verb := (List.range j.nodes.toNat).map fun (i : Nat) => rdVerb i j.at_
def swapAsk (j : Job) (nx : Int → Int) (l : List Acc) : List Verb := l.map fun a => casVerb a.node j.at_ a.word (nx a.word)

def fitP (v : Verb) (d : Done) : Bool := if d.code = 0 then decide ((d.words.length : Int) = v.v.rets) else if d.code = 4 ∨ d.code = 5 then decide (d.words.length = 0) else false
def fitL (vs : List Verb) (ds : List Done) : Bool := decide (vs.length = ds.length) && (vs.zip ds).all fun p => fitP p.1 p.2

structure BRes where
  done : List Done
  ok : Bool
  got : List (List Done)
  ask : Option (List Verb)
  wrong : Bool

def batch (G : List (List Done)) (vs : List Verb) : BRes :=
  if vs.length = 0 then ⟨[], true, G, none, false⟩ else match G with
  | [] => ⟨[], false, [], some vs, false⟩
  | d :: G' => if fitL vs d then ⟨d, true, G', none, false⟩ else ⟨[], false, d :: G', none, true⟩

def readGo : Nat → List Done → List Acc → Int → List Acc × Int
  | _, [], acc, g => (acc, g)
  | i, d :: ds, acc, g => if d.code = 0 then readGo (i + 1) ds (acc ++ [⟨i, wordOf d⟩]) (max g (cwP (wordOf d))) else readGo (i + 1) ds acc g

def swapGo (nx : Int → Int) : List Acc → List Done → Nat → List Acc → Int → Nat × List Acc × Int
  | a :: l, d :: ds, n, acc, g =>
    if d.code ≠ 0 then swapGo nx l ds n acc g
    else if wordOf d ≠ a.word then swapGo nx l ds (n + 1) acc (max g (cwP (wordOf d)))
    else swapGo nx l ds (n + 1) (acc ++ [⟨a.node, nx (wordOf d)⟩]) g
  | _, _, n, acc, g => (n, acc, g)

def judge (nodes answers agreed g : Int) : Out := if answers < majority nodes then ⟨9, 0, 0⟩ else if agreed < majority nodes then ⟨8, 0, g / 8⟩ else ⟨0, 0, 0⟩

def promiseW (b w : Int) : Int := cwOf b (cwA w) (cwV w)

def valueGo : List Acc → Int → Int → Int
  | [], v, _ => v
  | a :: l, v, g => if g < cwA a.word then valueGo l (cwV a.word) (cwA a.word) else valueGo l v g

/-- What a run leaves: the rest of the completions, what it asks, whether they were wrong, its outcome. -/
structure RunRes where
  got : List (List Done)
  ask : Option (List Verb)
  wrong : Bool
  out : Out

def out0 : Out := ⟨0, 0, 0⟩

def run3 (j : Job) (b g : Int) (G : List (List Done)) (promised : List Acc) : RunRes :=
  let v := valueGo promised j.value 0
  let r := batch G (swapAsk j (fun _ => cwOf b b v) promised)
  if r.ok = false then ⟨r.got, r.ask, r.wrong, out0⟩ else
  let s := swapGo (fun _ => cwOf b b v) promised r.done 0 [] g
  let o := judge j.nodes s.1 s.2.1.length s.2.2
  if o.code ≠ 0 then ⟨r.got, r.ask, r.wrong, o⟩ else ⟨r.got, r.ask, r.wrong, ⟨0, v, 0⟩⟩

def run2 (j : Job) (b g : Int) (G : List (List Done)) (cands : List Acc) : RunRes :=
  let r := batch G (swapAsk j (promiseW b) cands)
  if r.ok = false then ⟨r.got, r.ask, r.wrong, out0⟩ else
  let s := swapGo (promiseW b) cands r.done 0 [] g
  let o := judge j.nodes s.1 s.2.1.length s.2.2
  if o.code ≠ 0 then ⟨r.got, r.ask, r.wrong, o⟩ else run3 j b s.2.2 r.got s.2.1

def candOf (b : Int) (l : List Acc) : List Acc := l.filter fun a => decide (cwP a.word < b)

def run1 (j : Job) (b g : Int) (G : List (List Done)) : RunRes :=
  let r := batch G (readAsk j)
  if r.ok = false then ⟨r.got, r.ask, r.wrong, out0⟩ else
  let s := readGo 0 r.done [] g
  let c := candOf b s.1
  let o := judge j.nodes s.1.length c.length s.2
  if o.code ≠ 0 then ⟨r.got, r.ask, r.wrong, o⟩ else run2 j b s.2 r.got c

/-- The next batch, or the outcome. -/
def pnext (j : Job) (G : List (List Done)) : List Verb × Out × Bool :=
  if j.valid ≠ 0 then ([], ⟨j.valid, 0, 0⟩, true) else
  let r := run1 j (ballot j.round j.client) 0 G
  match r.ask with
  | some vs => (vs, out0, false)
  | none => if r.wrong || decide (0 < r.got.length) then ([], ⟨6, 0, 0⟩, true) else ([], r.out, true)

/-! ### Memory -/

abbrev TPr : TypeId := 150
abbrev TTk : TypeId := 161
abbrev TAc : TypeId := 166
abbrev TOu : TypeId := 131
abbrev TJb : TypeId := 24

def Job.cells (j : Job) : List Value := [.int .i64 j.nodes, .int .i64 j.number, .int .i64 j.client, .int .i64 j.round, .int .u64 j.value]
def Job.val (j : Job) : Value := .agg j.cells.toArray
def Out.cells (o : Out) : List Value := [.int .i64 o.code, .int .u64 o.value, .int .i64 o.round]
def Out.val (o : Out) : Value := .agg o.cells.toArray
def Acc.cells (a : Acc) : List Value := [.int .i64 a.node, .int .u64 a.word]
def arows (l : List Acc) : List (List Value) := l.map Acc.cells
def prc (j : Job) (tb : Nat) (b g : Int) : List Value := [.int .i64 j.nodes, .int .i64 j.number, .int .i64 j.client, .int .i64 j.round, .int .u64 j.value, ptr tb, .int .u64 b, .int .u64 g]

theorem arows_len (l : List Acc) : ∀ r ∈ arows l, r.length = 2 := by
  intro r hr
  simp only [arows, List.mem_map] at hr
  obtain ⟨v, _, rfl⟩ := hr
  rfl
theorem arows_get {l : List Acc} {i : Nat} {a : Acc} (h : l[i]? = some a) : (arows l)[i]? = some a.cells := by simp [arows, h]
theorem arows_snoc (l : List Acc) (a : Acc) : (arows (l ++ [a])).flatten = (arows l).flatten ++ a.cells := by simp [arows]
theorem Acc.single (a : Acc) : ∀ u ∈ a.cells, single u = true := by
  intro u hu
  simp only [Acc.cells, List.mem_cons, List.not_mem_nil, or_false] at hu
  rcases hu with rfl | rfl <;> rfl
theorem Out.single (a : Out) : ∀ u ∈ a.cells, single u = true := by
  intro u hu
  simp only [Out.cells, List.mem_cons, List.not_mem_nil, or_false] at hu
  rcases hu with rfl | rfl | rfl <;> rfl

/-- A struct is stored into its box. -/
theorem put_k {u : World} {b : Nat} {cs vs : List Value} {T : TypeId} {K : World → Prop} (hb : Blk u b cs T) (hl : vs.length = cs.length) (hs : ∀ v ∈ vs, single v = true) (hk : ∀ w', Blk w' b vs T → Keep (fun k => k = b) u w' → K w') :
    wrAt u ⟨b, 0, none⟩ 0 vs ∧ ∀ w', w' = puts u ⟨b, 0, none⟩ 0 vs → K w' := by
  refine ⟨wrAt_blk hb (by omega) hs, ?_⟩
  rintro w' rfl
  refine hk _ ?_ (keep_puts _ _ _ _ _)
  have h := hb.puts (o := 0) (i := 0) (vs := vs)
  rw [splice_all hl] at h
  exact h

/-- A new box, and a struct that is stored into it. -/
theorem box_k {u : World} {zs vs : List Value} {T : TypeId} {K : Nat → World → Prop} (hl : vs.length = zs.length) (hs : ∀ v ∈ vs, single v = true) (hk : ∀ b w', b = u.heap.size → Blk w' b vs T → New u w' → K b w') :
    ∀ b1 w1, b1 = u.heap.size → w1 = u.alloc (.cells zs.toArray T) → wrAt w1 ⟨b1, 0, none⟩ 0 vs ∧ ∀ w2, w2 = puts w1 ⟨b1, 0, none⟩ 0 vs → K b1 w2 := by
  rintro b1 w1 hb1 hw1
  obtain ⟨hz, hn⟩ := box_new hb1 hw1
  refine put_k hz (by simpa using hl) hs fun w' hb' hk' => hk b1 w' hb1 hb' (hn.trans hk' fun k hlt e => ?_)
  omega

theorem oload {w : World} {b : Nat} {o : Out} {K : Int → Int → Int → Prop} (h : Blk w b o.cells TOu) (hk : K o.code o.value o.round) :
    ∃ (x y z : Int), cellsAt w ⟨b, 0, none⟩ 0 [.int .i64 x, .int .u64 y, .int .i64 z] ∧ K x y z := ⟨_, _, _, cellsAt_blk h (by simp [Out.cells]), hk⟩

/-! ### Small functions -/

theorem Majority_c (w : World) (n : Int) (hn : n ≤ 1000000000) : Does 12 [.int .i64 n] w fun v w' => v = .int .i64 (majority n) ∧ w' = w := by
  refine does Tryz.func12 ?_
  rw [paxos_Majority_vc]
  unfold majority
  refine bif_dec (fun h => ⟨by rw [if_pos h], rfl⟩) (fun h => ⟨?_, rfl⟩)
  rw [if_neg h, Int.tdiv_eq_ediv_of_nonneg (by omega), w64 (x := n / 2) (by omega) (by omega), w64 (by omega) (by omega)]

theorem PValid_c (w : World) (j : Job) : Does 9 [j.val] w fun v w' => v = .int .i64 j.valid ∧ New w w' := by
  refine does Tryz.func9 ?_
  refine Eq.mpr (paxos_Valid_vc j.nodes j.number j.client j.round j.value w _) ?_
  rintro b1 w1 hb1 hw1
  obtain ⟨hz, hn⟩ := box_new hb1 hw1
  unfold Job.valid
  refine ⟨_, hz.cell rfl, bif_dec (fun h => ⟨by rw [if_pos (by omega)], hn⟩) (fun h1 => ⟨_, hz.cell rfl, bif_dec (fun h => ⟨by rw [if_pos (by omega)], hn⟩) (fun h2 => ⟨_, hz.cell rfl, bif_dec (fun h => ⟨by rw [if_neg (by omega), if_pos (by omega)], hn⟩) (fun h3 => ⟨_, hz.cell rfl, bif_dec (fun h => ⟨by rw [if_neg (by omega), if_pos (by omega)], hn⟩) (fun h4 => ⟨_, hz.cell rfl, _, hz.cell rfl, ?_⟩)⟩)⟩)⟩)⟩
  refine at_call (Ballot_c _ _ _) ?_
  rintro v w2 ⟨rfl, rfl⟩
  refine ⟨_, _, rfl, ?_⟩
  rw [if_neg (by omega : ¬ (j.nodes < 1 ∨ 5 < j.nodes)), if_neg (by omega : ¬ (j.number < 0 ∨ 16 ≤ j.number))]
  by_cases hr : 1 ≤ j.round ∧ j.round ≤ 500
  · rw [if_neg (show ¬ ¬ (1 ≤ j.round ∧ j.round ≤ 500) from fun h => h hr), if_pos hr]
    by_cases hc : 0 ≤ j.client ∧ j.client ≤ 5
    · rw [if_neg (show ¬ ¬ (0 ≤ j.client ∧ j.client ≤ 5) from fun h => h hc), if_pos hc]
      refine bif_f rfl ⟨_, hz.cell rfl, bif_beq (fun h => ⟨by rw [if_pos (.inl h)], hn⟩) (fun h => ⟨_, hz.cell rfl, bif_dec (fun h => ⟨by rw [if_pos (.inr h)], hn⟩) (fun h => ⟨by rw [if_neg (by omega)], hn⟩)⟩)⟩
    · rw [if_pos (show ¬ (0 ≤ j.client ∧ j.client ≤ 5) from hc), if_neg hc]
      exact bif_t rfl ⟨rfl, hn⟩
  · rw [if_pos (show ¬ (1 ≤ j.round ∧ j.round ≤ 500) from hr), if_neg hr]
    exact bif_t rfl ⟨rfl, hn⟩

theorem TWord_c {M : Nat → Prop} {w : World} {d : DoneV} {x : Done} (h : DoneAt M w d x) : Does 108 [d.val] w fun v w' => v = .int .u64 (wordOf x) ∧ New w w' := by
  refine does Tryz.func108 ?_
  refine Eq.mpr (talk_Word_vc d.Code d.Words d.Wl d.Wc w _) ?_
  rintro b1 w1 hb1 hw1
  obtain ⟨hz, hn⟩ := box_new hb1 hw1
  have hl := h.len
  refine ⟨_, _, _, hz.cell rfl, bif_beq (fun h0 => ?_) (fun h0 => ⟨_, _, _, hz.cell rfl, ?_⟩)⟩
  · have : x.words = [] := List.eq_nil_of_length_eq_zero (by omega)
    refine ⟨by simp [wordOf, this], hn⟩
  · cases hx : x.words with
    | nil => rw [hx] at hl; simp at hl; omega
    | cons y ys =>
      have hr := h.rd.new hn
      rw [hx] at hr
      rcases hr with hr | ⟨b, o, he, hc⟩
      · cases hr
      rw [he]
      refine idxS_mk (by omega) (by omega) ⟨y, ?_, by simp [wordOf, hx], hn⟩
      exact hc 0 _ rfl

theorem wordOf_u64 {M : Nat → Prop} {w : World} {d : DoneV} {x : Done} (h : DoneAt M w d x) : U64 (wordOf x) := by
  unfold wordOf
  cases hx : x.words with
  | nil => exact ⟨by decide, by decide⟩
  | cons y ys => exact h.wf y (by rw [hx]; exact List.mem_cons_self)

theorem met_c {u : World} {pb tb : Nat} {j : Job} {b g x : Int} (h : Blk u pb (prc j tb b g) TPr) (hx : U64 x) :
    Does 109 [ptr pb, .int .u64 x] u fun v u' => v = .tuple #[] ∧ Blk u' pb (prc j tb b (max g (cwP x))) TPr ∧ Keep (fun k => k = pb) u u' := by
  refine does Tryz.func109 ?_
  rw [ptr, paxos_proposer_met_vc]
  refine at_call (Split_c _ hx.1 hx.2) ?_
  rintro v u1 ⟨rfl, rfl⟩
  refine ⟨_, _, _, rfl, _, h.cell rfl, ⟨_, h.cell rfl⟩, h.frozen, ?_⟩
  rintro u2 rfl
  refine ⟨rfl, ?_, keep_setCell _ _ _ _⟩
  have := h.setCell (i := 7) (.int .u64 (if g < cwP x then cwP x else g))
  have e : max g (cwP x) = if g < cwP x then cwP x else g := by split <;> omega
  rw [e]
  exact this

theorem lost_c {u : World} {pb tb : Nat} {j : Job} {b g : Int} (h : Blk u pb (prc j tb b g) TPr) (hg : U64 g) :
    Does 111 [ptr pb] u fun v u' => v = Out.val ⟨8, 0, g / 8⟩ ∧ New u u' := by
  refine does Tryz.func111 ?_
  rw [ptr, paxos_proposer_lost_vc]
  rintro b1 u1 hb1 hu1
  obtain ⟨hz, hn⟩ := box_new hb1 hu1
  refine ⟨_, (New.blk hn h).cell rfl, ?_⟩
  have hg1 := hg.1
  have hg2 := hg.2
  rw [Int.tdiv_eq_ediv_of_nonneg hg.1, wrapu (by omega) (by omega), w64 (by omega) (by omega)]
  refine put_k (vs := Out.cells ⟨8, 0, g / 8⟩) hz rfl (Out.single _) fun w' hb' hk' => ?_
  refine oload hb' ⟨rfl, rfl, hn.trans hk' fun k hlt e => ?_⟩
  omega

theorem judge_c {u : World} {pb tb : Nat} {j : Job} {b g : Int} (h : Blk u pb (prc j tb b g) TPr) (hg : U64 g) (hj : j.nodes ≤ 5) (n m : Int) :
    Does 102 [ptr pb, .int .i64 n, .int .i64 m] u fun v u' => v = (judge j.nodes n m g).val ∧ New u u' := by
  refine does Tryz.func102 ?_
  rw [ptr, paxos_proposer_judge_vc]
  rintro b1 u1 hb1 hu1
  obtain ⟨hz, hn⟩ := box_new hb1 hu1
  refine ⟨_, (New.blk hn h).cell rfl, ?_⟩
  refine at_call (Majority_c _ _ (by omega)) ?_
  rintro v u2 ⟨rfl, rfl⟩
  refine ⟨_, rfl, ?_⟩
  unfold judge
  refine bif_dec (fun h1 => ?_) (fun h1 => bif_dec (fun h2 => ?_) (fun h2 => ?_))
  · rw [if_pos h1]
    refine put_k (vs := Out.cells ⟨9, 0, 0⟩) hz rfl (Out.single _) fun w' hb' hk' => ?_
    refine oload hb' ⟨rfl, rfl, hn.trans hk' fun k hlt e => ?_⟩
    omega
  · rw [if_neg h1, if_pos h2]
    refine at_call (lost_c (New.blk hn h) hg) ?_
    rintro v u3 ⟨rfl, hn3⟩
    refine ⟨_, _, _, rfl, ?_⟩
    refine put_k (vs := Out.cells ⟨8, 0, g / 8⟩) (New.blk hn3 hz) rfl (Out.single _) fun w' hb' hk' => ?_
    refine oload hb' ⟨rfl, rfl, (hn.new hn3).trans hk' fun k hlt e => ?_⟩
    omega
  · rw [if_neg h1, if_neg h2]
    refine put_k (vs := Out.cells ⟨0, 0, 0⟩) hz rfl (Out.single _) fun w' hb' hk' => ?_
    refine oload hb' ⟨rfl, rfl, hn.trans hk' fun k hlt e => ?_⟩
    omega

theorem promise_c {u : World} {pb tb : Nat} {j : Job} {b g x : Int} (h : Blk u pb (prc j tb b g) TPr) (hb : 0 ≤ b) (hx : U64 x) :
    Does 104 [ptr pb, .int .u64 x] u fun v u' => v = .int .u64 (promiseW b x) ∧ New u u' := by
  refine does Tryz.func104 ?_
  rw [ptr, paxos_proposer_promise_vc]
  refine at_call (Split_c _ hx.1 hx.2) ?_
  rintro v u1 ⟨rfl, rfl⟩
  refine ⟨_, _, _, rfl, _, h.cell rfl, ?_⟩
  refine at_call (WConsensus_c _ hb (cwA_in _).1 (cwV_in _).1) ?_
  rintro v u1 ⟨e, rfl, rfl⟩
  exact ⟨_, _, rfl, rfl, Keep.refl _ _⟩

theorem run1_c {u : World} {pb tb c0 c1 : Nat} {j : Job} {b g x v : Int} (h : Blk u pb (prc j tb b g) TPr) (hb : 0 ≤ b) (hv : 0 ≤ v) (h0 : Blk u c0 [ptr pb] 146) (h1 : Blk u c1 [.int .u64 v] TU64) :
    Does 106 [.int .u64 x, ptr c0, ptr c1] u fun r u' => r = .int .u64 (cwOf b b v) ∧ New u u' := by
  refine does Tryz.func106 ?_
  rw [ptr, ptr, paxos_proposer_run_1_vc]
  rintro u1 hu1
  have hn : New u u1 := by rw [hu1]; exact new_drew _
  refine ⟨fun z => New u z, hn, some ⟨pb, 0, none⟩, fun z hz => (New.blk hz h0).cell rfl, b, fun z hz => (New.blk hz h).cell (i := 6) rfl, some ⟨pb, 0, none⟩, fun z hz => (New.blk hz h0).cell rfl, b, fun z hz => (New.blk hz h).cell (i := 6) rfl, v, fun z hz => (New.blk hz h1).cell rfl, ?_⟩
  refine at_call (WConsensus_c _ hb hb hv) ?_
  rintro r u2 ⟨e, rfl, rfl⟩
  exact ⟨_, _, rfl, hn, rfl, hn⟩

theorem value_c {u : World} {pb tb : Nat} {j : Job} {b g : Int} (h : Blk u pb (prc j tb b g) TPr) {l : List Acc} {a : Option Addr} {c : Nat} (hr : Rd u a (arows l).flatten) (hw : ∀ x ∈ l, U64 x.word) (hl : l.length ≤ 1000000) :
    Does 105 [ptr pb, .slice a l.length c] u fun r u' => r = .int .u64 (valueGo l j.value 0) ∧ New u u' := by
  refine does Tryz.func105 ?_
  rw [ptr, paxos_proposer_value_vc]
  refine ⟨_, h.cell rfl, ?_⟩
  refine loop_rule mix (fun m env z => ∃ (i : Nat) (v k : Int) (jj : List Value), m = l.length - i ∧ i ≤ l.length ∧ env = paxos_proposer_value_env1 v k a l.length c l.length i jj ∧ New u z ∧ valueGo (l.drop i) v k = valueGo l j.value 0) l.length
    ⟨0, _, _, _, rfl, by omega, rfl, Keep.refl _ _, rfl⟩ ?_
  rintro m env z ⟨i, v, k, jj, rfl, hi, rfl, hn, hv⟩
  rw [paxos_proposer_value_loop1_body]
  refine bif_dec (fun hp => ?_) (fun hp => ?_)
  · have hlt : i < l.length := by omega
    have hg : l[i]? = some l[i] := List.getElem?_eq_getElem hlt
    obtain ⟨ba, oa, rfl, hca, hcell⟩ := (hr.new hn).row (arows_len l) (by omega) (arows_get hg)
    refine idxS_mk (by omega) (by omega) ?_
    refine ⟨l[i].node, l[i].word, by simpa [Acc.cells] using hca, ?_⟩
    refine box_k (vs := Acc.cells l[i]) rfl (Acc.single _) fun b1 z2 hb1 hz2 hn2 => ?_
    refine ⟨_, hz2.cell rfl, ?_⟩
    have hu := hw _ (List.mem_of_getElem? hg)
    refine at_call (Split_c _ hu.1 hu.2) ?_
    rintro r z3 ⟨rfl, rfl⟩
    refine ⟨_, _, _, rfl, ?_⟩
    rw [List.drop_eq_getElem_cons hlt, valueGo] at hv
    refine bif_dec (fun hc => ?_) (fun hc => ?_)
    · rw [if_pos hc] at hv
      rw [w64 (by omega) (by omega)]
      exact ⟨l.length - (i + 1), by omega, i + 1, _, _, _, rfl, by omega, rfl, hn.new hn2, hv⟩
    · rw [if_neg hc] at hv
      rw [w64 (by omega) (by omega)]
      exact ⟨l.length - (i + 1), by omega, i + 1, _, _, _, rfl, by omega, rfl, hn.new hn2, hv⟩
  · rw [paxos_proposer_value_aft1_vc]
    rw [List.drop_of_length_le (by omega), valueGo] at hv
    rw [hv]
    exact ⟨rfl, hn⟩
end Go.Proofs.YteaknokogenndaaGreat
