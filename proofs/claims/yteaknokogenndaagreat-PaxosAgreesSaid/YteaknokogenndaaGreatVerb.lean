/- Contracts of package verb. -/
import Derived.Test.YteaknokogenndaaGreatNode
set_option linter.unusedVariables false
namespace Go.Proofs.YteaknokogenndaaGreat
open Go.Eng

structure VerbV where
  Kind : Int
  Node : Int
  At : Int
  N : Int
  Old : Int
  New : Int
  Words : Option Addr
  Wl : Nat
  Wc : Nat
  Key : Int
  Boot : Int

def VerbV.cells (v : VerbV) : List Value := [.int .i64 v.Kind, .int .i64 v.Node, .int .i64 v.At, .int .i64 v.N, .int .u64 v.Old, .int .u64 v.New, .slice v.Words v.Wl v.Wc, .int .u64 v.Key, .int .i64 v.Boot]
def VerbV.val (v : VerbV) : Value := .agg v.cells.toArray

theorem VerbV.single (v : VerbV) : ∀ u ∈ v.cells, single u = true := by
  intro u hu
  simp only [VerbV.cells, List.mem_cons, List.not_mem_nil, or_false] at hu
  rcases hu with rfl | rfl | rfl | rfl | rfl | rfl | rfl | rfl | rfl <;> rfl

/-- A verb that lies in memory is loaded. -/
theorem vload {w : World} {ad : Addr} {v : VerbV} {K : Int → Int → Int → Int → Int → Int → Option Addr → Nat → Nat → Int → Int → Prop} (h : cellsAt w ad 0 v.cells)
    (hk : K v.Kind v.Node v.At v.N v.Old v.New v.Words v.Wl v.Wc v.Key v.Boot) :
    ∃ (Kind : Int) (Node : Int) (At : Int) (N : Int) (Old : Int) (New : Int) (Words : Option Addr) (Wl : Nat) (Wc : Nat) (Key : Int) (Boot : Int),
      cellsAt w ad 0 [.int .i64 Kind, .int .i64 Node, .int .i64 At, .int .i64 N, .int .u64 Old, .int .u64 New, .slice Words Wl Wc, .int .u64 Key, .int .i64 Boot] ∧ K Kind Node At N Old New Words Wl Wc Key Boot :=
  ⟨_, _, _, _, _, _, _, _, _, _, _, h, hk⟩

theorem vloadS {S : World → Prop} {ad : Addr} {v : VerbV} {K : Int → Int → Int → Int → Int → Int → Option Addr → Nat → Nat → Int → Int → Prop} (h : ∀ u, S u → cellsAt u ad 0 v.cells)
    (hk : K v.Kind v.Node v.At v.N v.Old v.New v.Words v.Wl v.Wc v.Key v.Boot) :
    ∃ (Kind : Int) (Node : Int) (At : Int) (N : Int) (Old : Int) (New : Int) (Words : Option Addr) (Wl : Nat) (Wc : Nat) (Key : Int) (Boot : Int),
      (∀ u, S u → cellsAt u ad 0 [.int .i64 Kind, .int .i64 Node, .int .i64 At, .int .i64 N, .int .u64 Old, .int .u64 New, .slice Words Wl Wc, .int .u64 Key, .int .i64 Boot]) ∧ K Kind Node At N Old New Words Wl Wc Key Boot :=
  ⟨_, _, _, _, _, _, _, _, _, _, _, h, hk⟩

abbrev TV : TypeId := 113

theorem vbox {w : World} {b : Nat} {v : VerbV} (h : Blk w b v.cells TV) : cellsAt w ⟨b, 0, none⟩ 0 v.cells := cellsAt_blk h (by simp [VerbV.cells])

theorem valloc (w : World) (v : VerbV) : Blk (w.alloc (.cells v.cells.toArray TV)) w.heap.size v.cells TV := blk_alloc _ _ _

def VerbV.count (v : VerbV) : Int := if v.Kind = 1 then v.N else if v.Kind = 2 then v.Wl else if v.Kind = 3 ∨ v.Kind = 4 then 1 else 0

theorem Count_c (w : World) (v : VerbV) : Does 92 [v.val] w fun x w' => x = .int .i64 v.count ∧ New w w' := by
  refine does Tryz.func92 ?_
  refine Eq.mpr (verb_Count_vc v.Kind v.Node v.At v.N v.Old v.New v.Words v.Wl v.Wc v.Key v.Boot w _) ?_
  rintro b1 w1 rfl rfl
  have hb := valloc w v
  have hn := new_alloc w (.cells v.cells.toArray TV)
  refine ⟨_, hb.cell rfl, bif_beq (fun h1 => ⟨_, hb.cell rfl, ?_, hn⟩) (fun h1 => bif_beq (fun h2 => ⟨_, _, _, hb.cell rfl, ?_, hn⟩) (fun h2 => bif_beq (fun h3 => bif_beq (fun _ => ⟨?_, hn⟩) (fun h => absurd h3 h)) (fun h3 => bif_beq (fun h4 => ⟨?_, hn⟩) (fun h4 => ⟨?_, hn⟩))))⟩
  · simp [VerbV.count, h1]
  · simp [VerbV.count, h2]
  · simp [VerbV.count, h3]
  · simp [VerbV.count, h4]
  · simp [VerbV.count, h1, h2, h3, h4]

def VerbV.last (v : VerbV) : Int := if v.Kind = 1 then 3 else 2

theorem lastLine_c (w : World) (v : VerbV) : Does 95 [v.val] w fun x w' => x = .int .i64 v.last ∧ New w w' := by
  refine does Tryz.func95 ?_
  refine Eq.mpr (verb_lastLine_vc v.Kind v.Node v.At v.N v.Old v.New v.Words v.Wl v.Wc v.Key v.Boot w _) ?_
  rintro b1 w1 rfl rfl
  have hb := valloc w v
  have hn := new_alloc w (.cells v.cells.toArray TV)
  refine ⟨_, hb.cell rfl, bif_beq (fun h1 => ⟨?_, hn⟩) (fun h1 => ⟨?_, hn⟩)⟩ <;> simp [VerbV.last, h1]

def VerbV.rets (v : VerbV) : Int := if v.Kind = 1 then v.N else if v.Kind = 3 ∨ v.Kind = 4 then 1 else 0

theorem Returns_c (w : World) (v : VerbV) : Does 114 [v.val] w fun x w' => x = .int .i64 v.rets ∧ New w w' := by
  refine does Tryz.func114 ?_
  refine Eq.mpr (verb_Returns_vc v.Kind v.Node v.At v.N v.Old v.New v.Words v.Wl v.Wc v.Key v.Boot w _) ?_
  rintro b1 w1 rfl rfl
  have hb := valloc w v
  have hn := new_alloc w (.cells v.cells.toArray TV)
  refine ⟨_, hb.cell rfl, bif_beq (fun h1 => ⟨_, hb.cell rfl, ?_, hn⟩) (fun h1 => bif_beq (fun h3 => bif_beq (fun _ => ⟨?_, hn⟩) (fun h => absurd h3 h)) (fun h3 => bif_beq (fun h4 => ⟨?_, hn⟩) (fun h4 => ⟨?_, hn⟩)))⟩
  · simp [VerbV.rets, h1]
  · simp [VerbV.rets, h3]
  · simp [VerbV.rets, h4]
  · simp [VerbV.rets, h1, h3, h4]

/-- The lines that a verb touches. -/
def VerbV.l0 (v : VerbV) : Int := v.At / 8
def VerbV.l1 (v : VerbV) : Int := (v.At + v.count - 1) / 8

theorem span_c (w : World) (v : VerbV) (h0 : 0 ≤ v.At) (h1 : v.At ≤ 1000000) (h2 : 1 ≤ v.count) (h3 : v.count ≤ 1000000) :
    Does 94 [v.val] w fun x w' => x = .tuple #[.int .i64 v.l0, .int .i64 v.l1] ∧ New w w' := by
  refine does Tryz.func94 ?_
  refine Eq.mpr (verb_span_vc v.Kind v.Node v.At v.N v.Old v.New v.Words v.Wl v.Wc v.Key v.Boot w _) ?_
  rintro b1 w1 rfl rfl w2 rfl
  have hb : Blk (w.alloc (.cells v.cells.toArray TV)).drew w.heap.size v.cells TV := valloc w v
  have hn : Go.Eng.New w (w.alloc (.cells v.cells.toArray TV)).drew := (new_alloc w (.cells v.cells.toArray TV)).drew
  refine ⟨fun u => Go.Eng.New (w.alloc (.cells v.cells.toArray TV)).drew u, Keep.refl _ _, _, fun u hu => (New.blk hu hb).cell rfl, _, fun u hu => (New.blk hu hb).cell rfl, vloadS (fun u hu => vbox (New.blk hu hb)) ?_⟩
  refine at_call (Count_c _ v) ?_
  rintro x w3 ⟨rfl, hk⟩
  refine ⟨_, rfl, hk, ?_, hn.new hk⟩
  rw [w64 (x := v.At + v.count) (by omega) (by omega), w64 (x := v.At + v.count - 1) (by omega) (by omega), Int.tdiv_eq_ediv_of_nonneg h0, Int.tdiv_eq_ediv_of_nonneg (by omega), w64 (by omega) (by omega), w64 (by omega) (by omega)]
  rfl

def VerbV.inside (v : VerbV) (nodes lines : Int) : Bool :=
  decide (1 ≤ nodes ∧ nodes ≤ 5 ∧ 1 ≤ lines ∧ lines ≤ 256 ∧ 0 ≤ v.Node ∧ v.Node < nodes ∧ 0 ≤ v.At ∧ v.At < lines * 8 ∧ v.count ≤ 1024 ∧ v.l1 < lines ∧ v.l1 - v.l0 < 128)

theorem inside_c (w : World) (v : VerbV) (nodes lines : Int) (hc : 1 ≤ v.count) : Does 93 [v.val, .int .i64 nodes, .int .i64 lines] w fun x w' => x = .bool (v.inside nodes lines) ∧ New w w' := by
  refine does Tryz.func93 ?_
  refine Eq.mpr (verb_inside_vc v.Kind v.Node v.At v.N v.Old v.New v.Words v.Wl v.Wc v.Key v.Boot nodes lines w _) ?_
  rintro b1 w1 rfl rfl
  have hb := valloc w v
  have hn := new_alloc w (.cells v.cells.toArray TV)
  have no : ∀ {w'}, Go.Eng.New w w' → ¬ (1 ≤ nodes ∧ nodes ≤ 5 ∧ 1 ≤ lines ∧ lines ≤ 256 ∧ 0 ≤ v.Node ∧ v.Node < nodes ∧ 0 ≤ v.At ∧ v.At < lines * 8 ∧ v.count ≤ 1024 ∧ v.l1 < lines ∧ v.l1 - v.l0 < 128) →
      (Value.bool false = .bool (v.inside nodes lines) ∧ Go.Eng.New w w') := fun hk h => ⟨by simp only [VerbV.inside, decide_eq_false h], hk⟩
  refine bif_dec (fun h1 => no hn (by omega)) (fun h1 => bif_dec (fun h2 => no hn (by omega)) (fun h2 => bif_dec (fun h3 => no hn (by omega)) (fun h3 => bif_dec (fun h4 => no hn (by omega)) (fun h4 =>
    ⟨_, hb.cell rfl, bif_dec (fun h5 => no hn (by omega)) (fun h5 => ⟨_, hb.cell rfl, bif_dec (fun h6 => no hn (by omega)) (fun h6 => ⟨_, hb.cell rfl, bif_dec (fun h7 => no hn (by omega)) (fun h7 => ⟨_, hb.cell rfl, ?_⟩)⟩)⟩)⟩))))
  rw [w64 (x := lines * 8) (by omega) (by omega)]
  refine bif_dec (fun h8 => no hn (by omega)) (fun h8 => vload (vbox hb) ?_)
  refine at_call (Count_c _ v) ?_
  rintro x w2 ⟨rfl, hk⟩
  refine ⟨_, rfl, bif_dec (fun h9 => no (hn.new hk) (by omega)) (fun h9 => vload (vbox (New.blk hk hb)) ?_)⟩
  refine at_call (span_c _ v (by omega) (by omega) hc (by omega)) ?_
  rintro x w3 ⟨rfl, hk2⟩
  have hl : v.l0 = v.At / 8 := rfl
  have hl1 : v.l1 = (v.At + v.count - 1) / 8 := rfl
  refine ⟨_, _, rfl, bif_dec (fun ha => ⟨?_, (hn.new hk).new hk2⟩) (fun ha => no ((hn.new hk).new hk2) (by omega))⟩
  rw [w64 (x := v.l1 - v.l0) (by omega) (by omega)]
  congr 1
  unfold VerbV.inside
  rw [decide_eq_decide]
  constructor
  · intro h; exact ⟨by omega, by omega, by omega, by omega, by omega, by omega, by omega, by omega, by omega, ha, h⟩
  · intro h; exact h.2.2.2.2.2.2.2.2.2.2

def VerbV.valid (v : VerbV) (nodes lines : Int) : Int :=
  if v.count < 1 then 1 else if v.inside nodes lines = false then 2 else if v.l0 ≤ v.last ∧ v.last < v.l1 then 2 else 0

theorem inside_true {v : VerbV} {nodes lines : Int} (h : v.inside nodes lines = true) : 1 ≤ nodes ∧ nodes ≤ 5 ∧ 1 ≤ lines ∧ lines ≤ 256 ∧ 0 ≤ v.Node ∧ v.Node < nodes ∧ 0 ≤ v.At ∧ v.At < lines * 8 ∧ v.count ≤ 1024 ∧ v.l1 < lines ∧ v.l1 - v.l0 < 128 := of_decide_eq_true h

theorem Valid_c (w : World) (v : VerbV) (nodes lines : Int) : Does 78 [v.val, .int .i64 nodes, .int .i64 lines] w fun x w' => x = .int .i64 (v.valid nodes lines) ∧ New w w' := by
  refine does Tryz.func78 ?_
  refine Eq.mpr (verb_Valid_vc v.Kind v.Node v.At v.N v.Old v.New v.Words v.Wl v.Wc v.Key v.Boot nodes lines w _) ?_
  rintro b1 w1 rfl rfl
  have hb := valloc w v
  have hn := new_alloc w (.cells v.cells.toArray TV)
  refine vload (vbox hb) ?_
  refine at_call (Count_c _ v) ?_
  rintro x w2 ⟨rfl, hk⟩
  have hb2 := New.blk hk hb
  have hn2 := hn.new hk
  refine ⟨_, rfl, bif_dec (fun h1 => ⟨by simp [VerbV.valid, h1], hn2⟩) (fun h1 => vload (vbox hb2) ?_)⟩
  refine at_call (inside_c _ v nodes lines (by omega)) ?_
  rintro x w3 ⟨rfl, hk3⟩
  have hb3 := New.blk hk3 hb2
  have hn3 := hn2.new hk3
  refine ⟨_, rfl, bif_not (fun h2 => ⟨by simp [VerbV.valid, h1, h2], hn3⟩) (fun h2 => vload (vbox hb3) ?_)⟩
  have hi := inside_true h2
  refine at_call (span_c _ v (by omega) (by omega) (by omega) (by omega)) ?_
  rintro x w4 ⟨rfl, hk4⟩
  have hb4 := New.blk hk4 hb3
  have hn4 := hn3.new hk4
  refine ⟨_, _, rfl, vload (vbox hb4) ?_⟩
  refine at_call (lastLine_c _ v) ?_
  rintro x w5 ⟨rfl, hk5⟩
  have hb5 := New.blk hk5 hb4
  have hn5 := hn4.new hk5
  refine ⟨_, rfl, bif_dec (fun h3 => vload (vbox hb5) ?_) (fun h3 => ⟨?_, hn5⟩)⟩
  · refine at_call (lastLine_c _ v) ?_
    rintro x w6 ⟨rfl, hk6⟩
    refine ⟨_, rfl, bif_dec (fun h4 => ⟨?_, hn5.new hk6⟩) (fun h4 => ⟨?_, hn5.new hk6⟩)⟩
    · simp [VerbV.valid, h1, h2, h3, h4]
    · have : ¬ v.last < v.l1 := by omega
      simp [VerbV.valid, h1, h2, h3, this]
  · simp [VerbV.valid, h1, h2, h3]

def VerbV.cls (v : VerbV) : Int := if v.l0 ≤ v.last then 1 else 2

theorem Class_c (w : World) (v : VerbV) (h0 : 0 ≤ v.At) (h1 : v.At ≤ 1000000) : Does 97 [v.val] w fun x w' => x = .int .i64 v.cls ∧ New w w' := by
  refine does Tryz.func97 ?_
  refine Eq.mpr (verb_Class_vc v.Kind v.Node v.At v.N v.Old v.New v.Words v.Wl v.Wc v.Key v.Boot w _) ?_
  rintro b1 w1 rfl rfl w2 rfl
  have hb : Blk (w.alloc (.cells v.cells.toArray TV)).drew w.heap.size v.cells TV := valloc w v
  have hn : Go.Eng.New w (w.alloc (.cells v.cells.toArray TV)).drew := (new_alloc w (.cells v.cells.toArray TV)).drew
  refine ⟨fun u => Go.Eng.New (w.alloc (.cells v.cells.toArray TV)).drew u, Keep.refl _ _, _, fun u hu => (New.blk hu hb).cell rfl, vloadS (fun u hu => vbox (New.blk hu hb)) ?_⟩
  refine at_call (lastLine_c _ v) ?_
  rintro x w3 ⟨rfl, hk⟩
  refine ⟨_, rfl, hk, ?_⟩
  rw [Int.tdiv_eq_ediv_of_nonneg h0, w64 (by omega) (by omega)]
  have hl : v.l0 = v.At / 8 := rfl
  refine bif_dec (fun h => ⟨?_, hn.new hk⟩) (fun h => ⟨?_, hn.new hk⟩)
  · rw [VerbV.cls, hl, if_pos h]
  · rw [VerbV.cls, hl, if_neg h]

/-- The memory node's answer to a piece of a verb. -/
def VerbV.check (v : VerbV) (inc door key boot : Int) : Int :=
  if v.cls = 1 ∧ v.Kind = 1 then 0 else if inc < 0 ∨ inc < door then 5 else if v.cls = 1 then 0 else if v.Boot < 0 ∨ v.Boot ≠ boot ∨ v.Key ≠ key then 5 else 0

theorem Check_c (w : World) (v : VerbV) (inc door key boot : Int) (h0 : 0 ≤ v.At) (h1 : v.At ≤ 1000000) (hi : inc ≤ 1000000) (hb1 : v.Boot < 9223372036854775808) :
    Does 81 [v.val, .int .i64 inc, .int .u64 door, .int .u64 key, .int .u64 boot] w fun x w' => x = .int .i64 (v.check inc door key boot) ∧ New w w' := by
  refine does Tryz.func81 ?_
  refine Eq.mpr (verb_Check_vc v.Kind v.Node v.At v.N v.Old v.New v.Words v.Wl v.Wc v.Key v.Boot inc door key boot w _) ?_
  rintro b1 w1 rfl rfl
  have hb := valloc w v
  have hn := new_alloc w (.cells v.cells.toArray TV)
  refine vload (vbox hb) ?_
  refine at_call (Class_c _ v h0 h1) ?_
  rintro x w2 ⟨rfl, hk⟩
  have hb2 := New.blk hk hb
  have hn2 := hn.new hk
  refine ⟨_, rfl, bif_beq (fun hc => ?_) (fun hc => ?_)⟩
  · refine ⟨_, hb2.cell rfl, bif_beq (fun hk1 => ⟨by simp [VerbV.check, hc, hk1], hn2⟩) (fun hk1 => bif_dec (fun hx => ⟨by simp [VerbV.check, hk1, hx], hn2⟩) (fun hx => ?_))⟩
    rw [wu64 (x := inc) (by omega) (by omega)]
    refine bif_dec (fun hy => ⟨by simp [VerbV.check, hk1, hy], hn2⟩) (fun hy => bif_beq (fun _ => ⟨by simp [VerbV.check, hk1, hx, hy, hc], hn2⟩) (fun h => absurd hc h))
  · refine bif_dec (fun hx => ⟨by simp [VerbV.check, hc, hx], hn2⟩) (fun hx => ?_)
    rw [wu64 (x := inc) (by omega) (by omega)]
    refine bif_dec (fun hy => ⟨by simp [VerbV.check, hc, hy], hn2⟩) (fun hy => bif_beq (fun h => absurd h hc) (fun _ => ⟨_, hb2.cell rfl, bif_dec (fun hz => ⟨by simp [VerbV.check, hc, hx, hy, hz], hn2⟩) (fun hz => ⟨_, hb2.cell rfl, ?_⟩)⟩))
    rw [wu64 (x := v.Boot) (by omega) (by omega)]
    refine bif_bne (fun hu => ⟨by simp [VerbV.check, hc, hx, hy, hu], hn2⟩) (fun hu => ⟨_, hb2.cell rfl, bif_bne (fun ht => ⟨by simp [VerbV.check, hc, hx, hy, ht], hn2⟩) (fun ht => ⟨?_, hn2⟩)⟩)
    have : ¬ boot < 0 := by omega
    simp [VerbV.check, hc, hx, hy, hu, ht, this]

/-! ### Completions -/

structure DoneV where
  Code : Int
  Words : Option Addr
  Wl : Nat
  Wc : Nat

def DoneV.cells (d : DoneV) : List Value := [.int .i64 d.Code, .slice d.Words d.Wl d.Wc]
def DoneV.val (d : DoneV) : Value := .agg d.cells.toArray

theorem DoneV.single (d : DoneV) : ∀ u ∈ d.cells, single u = true := by
  intro u hu
  simp only [DoneV.cells, List.mem_cons, List.not_mem_nil, or_false] at hu
  rcases hu with rfl | rfl <;> rfl

abbrev TD : TypeId := 94

def fits (v : VerbV) (d : DoneV) : Bool :=
  if d.Code = 0 then decide ((d.Wl : Int) = v.rets) else if d.Code = 4 ∨ d.Code = 5 then decide (d.Wl = 0) else false

theorem fits_c (w : World) (v : VerbV) (d : DoneV) : Does 113 [v.val, d.val] w fun x w' => x = .bool (fits v d) ∧ New w w' := by
  refine does Tryz.func113 ?_
  refine Eq.mpr (verb_fits_vc v.Kind v.Node v.At v.N v.Old v.New v.Words v.Wl v.Wc v.Key v.Boot d.Code d.Words d.Wl d.Wc w _) ?_
  rintro b1 w1 rfl rfl b2 w2 rfl rfl
  have hb := (valloc w v).alloc (.cells d.cells.toArray TD)
  have hd := blk_alloc (w.alloc (.cells v.cells.toArray TV)) d.cells TD
  have hn := (new_alloc w (.cells v.cells.toArray TV)).alloc (.cells d.cells.toArray TD)
  have e0 : ∀ x : Nat, (((x : Nat) : Int) == 0) = decide (x = 0) := fun x => by
    rw [Bool.eq_iff_iff]; simp
  refine ⟨_, hd.cell rfl, bif_beq (fun h0 => ?_) (fun h0 => bif_beq (fun h4 => bif_beq (fun _ => ⟨_, _, _, hd.cell rfl, ?_, hn⟩) (fun h => absurd h4 h)) (fun h4 => bif_beq (fun h5 => ⟨_, _, _, hd.cell rfl, ?_, hn⟩) (fun h5 => ⟨?_, hn⟩)))⟩
  · rintro w3 rfl
    refine ⟨fun u => Go.Eng.New ((w.alloc (.cells v.cells.toArray TV)).alloc (.cells d.cells.toArray TD)).drew u, Keep.refl _ _, _, _, _, fun u hu => (New.blk hu hd).cell rfl, vloadS (fun u hu => vbox (New.blk hu hb)) ?_⟩
    refine at_call (Returns_c _ v) ?_
    rintro x w4 ⟨rfl, hk⟩
    refine ⟨_, rfl, hk, ?_, hn.drew.new hk⟩
    rw [fits, if_pos h0]
    rfl
  · rw [e0]; simp [fits, h4]
  · rw [e0]; simp [fits, h5]
  · simp [fits, h0, h4, h5]

def vrows (vs : List VerbV) : List (List Value) := vs.map VerbV.cells
def drows (ds : List DoneV) : List (List Value) := ds.map DoneV.cells

theorem vrows_len (vs : List VerbV) : ∀ r ∈ vrows vs, r.length = 9 := by
  intro r hr
  simp only [vrows, List.mem_map] at hr
  obtain ⟨v, _, rfl⟩ := hr
  rfl
theorem drows_len (ds : List DoneV) : ∀ r ∈ drows ds, r.length = 2 := by
  intro r hr
  simp only [drows, List.mem_map] at hr
  obtain ⟨v, _, rfl⟩ := hr
  rfl
theorem vrows_get {vs : List VerbV} {i : Nat} {v : VerbV} (h : vs[i]? = some v) : (vrows vs)[i]? = some v.cells := by simp [vrows, h]
theorem drows_get {ds : List DoneV} {i : Nat} {d : DoneV} (h : ds[i]? = some d) : (drows ds)[i]? = some d.cells := by simp [drows, h]

def fitAll (vs : List VerbV) (ds : List DoneV) : Bool := decide (vs.length = ds.length) && (vs.zip ds).all fun p => fits p.1 p.2

theorem Fit_c {w : World} {a b : Option Addr} {ca cb : Nat} {vs : List VerbV} {ds : List DoneV} (ha : Rd w a (vrows vs).flatten) (hb : Rd w b (drows ds).flatten) (hl : vs.length ≤ 1000000) (hl2 : ds.length ≤ 1000000000) :
    Does 112 [.slice a vs.length ca, .slice b ds.length cb] w fun x w' => x = .bool (fitAll vs ds) ∧ New w w' := by
  refine does Tryz.func112 ?_
  rw [verb_Fit_vc]
  refine bif_bne (fun h => ⟨?_, Keep.refl _ _⟩) (fun h => ?_)
  · have : ¬ vs.length = ds.length := by omega
    simp [fitAll, this]
  have hlen : vs.length = ds.length := by omega
  refine loop_rule mix (fun m env u => ∃ (i : Nat) (j : List Value), i ≤ vs.length ∧ m = vs.length - i ∧ env = verb_Fit_env1 b ds.length cb a vs.length ca vs.length i j ∧ New w u ∧ (∀ k, k < i → ∀ v d, vs[k]? = some v → ds[k]? = some d → fits v d = true)) vs.length
    ⟨0, _, by omega, by omega, rfl, Keep.refl _ _, fun k hk => by omega⟩ ?_
  rintro m env u ⟨i, j, hi, rfl, rfl, hk, hall⟩
  rw [verb_Fit_loop1_body]
  refine bif_dec (fun hlt => ?_) (fun hlt => ?_)
  · have hlt' : i < vs.length := by omega
    have hv : vs[i]? = some vs[i] := by simp [hlt']
    have hd : ds[i]? = some ds[i] := by simp [hlen ▸ hlt']
    obtain ⟨ba, oa, rfl, hca, hcell⟩ := (ha.new hk).row (vrows_len vs) (by omega) (vrows_get hv)
    obtain ⟨bb, ob, rfl, _, _⟩ := (hb.new hk).row (drows_len ds) (by omega) (drows_get hd)
    refine idxS_mk (by omega) (by omega) ?_
    refine vload (v := vs[i]) (by simpa using hca) ?_
    rintro b1 w1 hb1 hw1
    obtain ⟨hz, hn1⟩ := box_new hb1 hw1
    refine ⟨wrAt_blk (vs := VerbV.cells vs[i]) hz (by simp [VerbV.cells]) (VerbV.single vs[i]), ?_⟩
    rintro w2 hw2 w3 rfl
    obtain ⟨hbox, hn2⟩ := box_put (vs := VerbV.cells vs[i]) hz (by simp [VerbV.cells]) hn1 (by omega) hw2
    clear hw1 hw2 hz hn1
    have hnw' : Go.Eng.New w w2.drew := (Keep.new hk hn2).drew
    refine ⟨fun z => Go.Eng.New w2.drew z, Keep.refl _ _, vloadS (v := vs[i]) (fun z hz => vbox (New.blk hz hbox)) ?_⟩
    refine idxS_mk (by omega) (by omega) ?_
    refine ⟨ds[i].Code, ds[i].Words, ds[i].Wl, ds[i].Wc, fun z hz => ?_, ?_⟩
    · obtain ⟨b', o', he, hc', _⟩ := (hb.new (Keep.new hnw' hz)).row (drows_len ds) (by omega) (drows_get hd)
      simp only [Option.some.injEq, Addr.mk.injEq, and_true] at he
      rw [he.1, he.2]
      exact hc'
    refine at_call (fits_c _ vs[i] ds[i]) ?_
    rintro x w4 ⟨rfl, hk4⟩
    refine ⟨_, rfl, bif_not (fun hf => ?_) (fun hf => ?_)⟩
    · refine ⟨?_, Keep.new hnw' hk4⟩
      congr 1
      symm
      unfold fitAll
      rw [Bool.and_eq_false_iff]
      refine .inr ?_
      rw [List.all_eq_false]
      exact ⟨(vs[i], ds[i]), List.mem_of_getElem? (i := i) (by simp [List.zip, List.getElem?_zipWith, hv, hd]), by simp [hf]⟩
    · rw [show IntKind.i64.wrap ((i : Int) + 1) = ((i + 1 : Nat) : Int) by rw [w64 (by omega) (by omega)]; rfl]
      refine ⟨vs.length - (i + 1), by omega, i + 1, _, by omega, rfl, rfl, Keep.new hnw' hk4, ?_⟩
      · intro k hk v d hv' hd'
        by_cases he : k = i
        · subst he
          rw [hv] at hv'; rw [hd] at hd'
          cases hv'; cases hd'
          exact hf
        · exact hall k (by omega) v d hv' hd'
  · have hi' : i = vs.length := by omega
    rw [verb_Fit_aft1_vc]
    refine ⟨?_, hk⟩
    congr 1
    symm
    unfold fitAll
    rw [Bool.and_eq_true]
    refine ⟨by simp [hlen], ?_⟩
    rw [List.all_eq_true]
    rintro ⟨v, d⟩ hm
    obtain ⟨k, hk', he⟩ := List.mem_iff_getElem.1 hm
    simp only [List.length_zip] at hk'
    simp only [List.getElem_zip, Prod.mk.injEq] at he
    exact hall k (by omega) v d (by rw [List.getElem?_eq_getElem (by omega), he.1]) (by rw [List.getElem?_eq_getElem (by omega), he.2])
end Go.Proofs.YteaknokogenndaaGreat
