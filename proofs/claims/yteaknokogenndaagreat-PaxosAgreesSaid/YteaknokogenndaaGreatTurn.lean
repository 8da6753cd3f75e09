/- Conversations on a fabric: one compute node acts. -/
import Derived.Test.YteaknokogenndaaGreatOk
set_option linter.unusedVariables false
namespace Go.Proofs.YteaknokogenndaaGreat
open Go.Eng

/-! ### A fabric among local variables -/

/-- The fabric, seen from the world w, in a world u with local variables L. -/
structure TW (A : Nat → Prop) (χ : Nat → Tag) (w : World) (fb : Nat) (L : Nat → Prop) (u : World) (B : Nat → Prop) (ξ : Nat → Tag) (X : FabX) : Prop where
  next : Next A B χ ξ w u
  fab : FabAt (fun k => B k ∨ L k) ξ u fb X
  loc : ∀ k, L k → w.heap.size ≤ k ∧ k < u.heap.size ∧ ξ k = .imm

theorem TW.start {A : Nat → Prop} {χ : Nat → Tag} {w w2 : World} {fb : Nat} {X : FabX} (h : FabAt A χ w fb X) (hn : New w w2) {L : Nat → Prop} (hL : ∀ k, L k → w.heap.size ≤ k ∧ k < w2.heap.size) : TW A χ w fb L w2 A χ X := by
  refine ⟨h.refl hn, ?_, fun k hk => ⟨(hL k hk).1, (hL k hk).2, h.fresh (hL k hk).1⟩⟩
  refine (h.widen hn).recolor (fun k hk => ?_) fun k hk => .inl (h.avoid k hk)
  rcases hk with hk | hk
  · exact .inl hk
  · exact .inr (hL k hk)

theorem TW.op {A : Nat → Prop} {χ : Nat → Tag} {w u u' : World} {fb : Nat} {L B : Nat → Prop} {ξ : Nat → Tag} {X : FabX} (t : TW A χ w fb L u B ξ X) {F : Fab} {K : (Nat → Prop) → Prop} (p : FPost (fun k => B k ∨ L k) ξ u fb F u' K) :
    ∃ B' ξ' X', TW A χ w fb L u' B' ξ' X' ∧ X'.pure = F ∧ K (fun k => B' k ∨ L k) ∧ Keep (fun k => B k ∨ L k) u u' ∧ (∀ k, k < u.heap.size → B' k ∨ L k → B k ∨ L k) ∧ (∀ k, L k → u'.heap[k]? = u.heap[k]?) := by
  obtain ⟨A', ξ', X', n, hF, hX, hK⟩ := p
  have hA : A' = fun k => nextA A χ ξ' w k ∨ L k := by
    funext k
    apply propext
    rw [n.iff k]
    constructor
    · rintro (h1 | ⟨h1, h2 | h2, h3⟩)
      · exact .inl (.inl h1)
      · rcases (t.next.iff k).1 h2 with h4 | h4
        · exact absurd h3 h4
        · exact .inl (.inr h4)
      · exact .inr h2
    · rintro ((h1 | ⟨h1, h2, h3⟩) | h1)
      · exact .inl h1
      · refine .inr ⟨Nat.lt_of_lt_of_le h1 t.next.keep.size, .inl ((t.next.iff k).2 (.inr ⟨h1, h2, h3⟩)), ?_⟩
        by_cases hc : ξ k = .imm
        · exact hc
        · exact absurd h3 (t.next.grow k h1 hc)
      · obtain ⟨_, h2, h3⟩ := t.loc k h1
        exact .inr ⟨h2, .inr h1, h3⟩
  have hkB : Keep (fun k => B k ∨ L k) u u' := n.keep.mono fun k _ hc => t.fab.avoid k hc
  refine ⟨nextA A χ ξ' w, ξ', X', ⟨⟨t.next.keep.trans n.keep fun k hk hc => t.next.grow k hk hc, fun k hk hc => t.next.grow k hk (n.grow k (Nat.lt_of_lt_of_le hk t.next.keep.size) hc), fun k => Iff.rfl⟩, hA ▸ hF, fun k hk => ?_⟩, hX, hA ▸ hK, hkB, fun k hk hc => ?_, fun k hk => ?_⟩
  · obtain ⟨h1, h2, h3⟩ := t.loc k hk
    refine ⟨h1, Nat.lt_of_lt_of_le h2 n.keep.size, ?_⟩
    by_cases hc : ξ' k = .imm
    · exact hc
    · exact absurd h3 (n.grow k h2 hc)
  · have hc' : A' k := by rw [hA]; exact hc
    rcases (n.iff k).1 hc' with h4 | h4
    · exact t.fab.avoid k (n.grow k hk h4)
    · exact h4.2.1
  · obtain ⟨_, h2, h3⟩ := t.loc k hk
    exact n.keep.block k h2 fun hc => hc h3

theorem TW.local {A : Nat → Prop} {χ : Nat → Tag} {w u u' : World} {fb : Nat} {L B : Nat → Prop} {ξ : Nat → Tag} {X : FabX} (t : TW A χ w fb L u B ξ X) {S : Nat → Prop} (hk : Keep S u u') (hS : ∀ k, S k → L k) : TW A χ w fb L u' B ξ X := by
  refine ⟨⟨t.next.keep.trans hk fun k hlt hs => ?_, t.next.grow, t.next.iff⟩, t.fab.other hk fun k hs => ⟨.inr (hS k hs), (t.loc k (hS k hs)).2.2⟩, fun k hl => ⟨(t.loc k hl).1, Nat.lt_of_lt_of_le (t.loc k hl).2.1 hk.size, (t.loc k hl).2.2⟩⟩
  have := (t.loc k (hS k hs)).1
  omega

theorem TW.new {A : Nat → Prop} {χ : Nat → Tag} {w u u' : World} {fb : Nat} {L B : Nat → Prop} {ξ : Nat → Tag} {X : FabX} (t : TW A χ w fb L u B ξ X) (hn : New u u') : TW A χ w fb L u' B ξ X :=
  t.local hn fun _ h => h.elim

theorem TW.done {A : Nat → Prop} {χ : Nat → Tag} {w u : World} {fb : Nat} {L B : Nat → Prop} {ξ : Nat → Tag} {X : FabX} (t : TW A χ w fb L u B ξ X) {K : (Nat → Prop) → Prop} (hK : K B) : FPost A χ w fb X.pure u K :=
  ⟨B, ξ, X, t.next, t.fab.recolor (fun k hk => .inl hk) (fun k hk => (t.next.iff k).2 (.inl hk)), rfl, hK⟩

/-! ### Conversations -/

theorem Off.keep {A A' : Nat → Prop} {w : World} {a : Option Addr} {xs : List Value} (hr : Rd w a xs) (ho : xs = [] ∨ Off A a) (hM : ∀ k, k < w.heap.size → A' k → A k) : xs = [] ∨ Off A' a := by
  rcases ho with ho | ho
  · exact .inl ho
  · by_cases hx : xs = []
    · exact .inl hx
    · refine .inr ?_
      cases a with
      | none => trivial
      | some a =>
        intro hm
        exact ho (hM _ (hr.lt hx) hm)

theorem GotAt.keep {A A' : Nat → Prop} {w w' : World} {a : Option Addr} {G : List (List Done)} (h : GotAt A w a G) (hk : Keep A w w') (hM : ∀ k, k < w.heap.size → A' k → A k) : GotAt A' w' a G := by
  obtain ⟨rows, hl, hr, ho, hd⟩ := h
  refine ⟨rows, hl, hr.keep hk ho, Off.keep hr ho hM, fun i r ds h5 h6 => ?_⟩
  obtain ⟨h1, h2, h3, h4⟩ := hd i r ds h5 h6
  exact ⟨h1.keep hk h2, Off.keep h1 h2 hM, h3.keep hk hM, h4⟩

structure Talk where
  kind : Int
  client : Int
  job : Job
  got : List (List Done)
  over : Bool
  bad : Bool
  code : Int
  value : Int

abbrev TTa : TypeId := 54

def Talk.cells (t : Talk) (ga : Option Addr) (gc : Nat) : List Value :=
  [.int .i64 t.kind, .int .i64 t.client, .int .i64 t.job.nodes, .int .i64 t.job.number, .int .i64 t.job.client, .int .i64 t.job.round, .int .u64 t.job.value, .slice ga t.got.length gc, .bool t.over, .bool t.bad, .int .i64 t.code, .int .u64 t.value]
def Talk.val (t : Talk) (ga : Option Addr) (gc : Nat) : Value := .agg (t.cells ga gc).toArray

theorem Talk.single (t : Talk) (ga : Option Addr) (gc : Nat) : ∀ u ∈ t.cells ga gc, single u = true := by
  intro u hu
  simp only [Talk.cells, List.mem_cons, List.not_mem_nil, or_false] at hu
  rcases hu with rfl | rfl | rfl | rfl | rfl | rfl | rfl | rfl | rfl | rfl | rfl | rfl <;> rfl

/-- A conversation is told what comes next. -/
def Talk.told (t : Talk) : Talk := { t with over := (pnext t.job t.got).2.2, code := (pnext t.job t.got).2.1.code, value := (pnext t.job t.got).2.1.value }

def zeroT : Talk := ⟨0, 0, ⟨0, 0, 0, 0, 0⟩, [], false, false, 0, 0⟩

set_option maxHeartbeats 1000000 in
theorem next_c {A : Nat → Prop} {w : World} {t : Talk} {ga : Option Addr} {gc : Nat} (hg : GotAt A w ga t.got) (hgc : t.got.length ≤ gc) (hk : t.kind = 2) (hv : U64 t.job.value) :
    Does 56 [t.val ga gc] w fun v w' => New w w' ∧ ∃ aa ac, v = .tuple #[.slice aa (pnext t.job t.got).1.length ac, t.told.val ga gc] ∧ Rd w' aa (vrows ((pnext t.job t.got).1.map Verb.v)).flatten ∧ (∀ k, isB aa k → w.heap.size ≤ k) := by
  refine does Tryz.func56 ?_
  refine Eq.mpr (bodegarun9_next_vc t.kind t.client t.job.nodes t.job.number t.job.client t.job.round t.job.value ga t.got.length gc t.over t.bad t.code t.value w _) ?_
  rintro b1 w1 hb1 hw1 b2 w2 hb2 hw2
  obtain ⟨hz1, hn1⟩ := box_new hb1 hw1
  obtain ⟨hz2, hn2⟩ := box_new hb2 hw2
  have hz12 : Blk w2 b1 (t.cells ga gc) TTa := New.blk hn2 hz1
  have hz2 : Blk w2 b2 (zeroT.cells none 0) TTa := hz2
  have hs1 := hz1.lt
  have hs12 := hn1.size
  have hs2 := hz2.lt
  clear hw1 hw2 hz1
  refine ⟨_, hz12.cell rfl, bif_t (by simpa using hk) ?_⟩
  refine ⟨t.job.nodes, t.job.number, t.job.client, t.job.round, t.job.value, cellsAt_blk hz12 rfl, _, _, _, hz12.cell rfl, ?_⟩
  have hn02 := hn1.new hn2
  refine at_call (PNext_c (j := t.job) (hg.new hn02) rfl hgc hv) ?_
  rintro v w3 ⟨hn3, aa, ac, rfl, hrd, hfr⟩
  refine ⟨_, _, _, _, _, _, _, rfl, ?_⟩
  refine box_k (vs := Out.cells (pnext t.job t.got).2.1) rfl (Out.single _) fun b3 w5 hb3 hz5 hn5 => ?_
  rintro w6 hw6
  have hn6 : New w5 w6 := by rw [hw6]; exact new_drew _
  clear hw6
  have hz6 := New.blk hn6 hz5
  have hb16 := New.blk ((hn3.new hn5).new hn6) hz12
  have hb26 := New.blk ((hn3.new hn5).new hn6) hz2
  have hs3 := hn3.size
  have hne : b3 ≠ b1 := by omega
  refine ⟨fun z => Keep (fun k => k = b1) w6 z, Keep.refl _ _, _, fun z hz => (hz.blk hz6 hne).cell (i := 0) rfl, _, fun z hz => (hz.blk hz6 hne).cell (i := 1) rfl, ⟨_, hb16.cell rfl⟩, hb16.frozen, ?_⟩
  rintro w7 hw7
  have hk7 : Keep (fun k => k = b1) w6 w7 := by rw [hw7]; exact keep_setCell _ _ _ _
  have hb17 := hb16.setCell (i := 8) (.bool (pnext t.job t.got).2.2)
  rw [← hw7] at hb17
  clear hw7
  refine ⟨hk7, ⟨_, hb17.cell rfl⟩, hb17.frozen, ?_⟩
  rintro w8 hw8
  have hk8 : Keep (fun k => k = b1) w6 w8 := by rw [hw8]; exact hk7.setCell (.inl rfl) _
  have hb18 := hb17.setCell (i := 10) (.int .i64 (pnext t.job t.got).2.1.code)
  rw [← hw8] at hb18
  clear hw8
  refine ⟨hk8, ⟨_, hb18.cell rfl⟩, hb18.frozen, ?_⟩
  rintro w9 hw9
  have hk9 : Keep (fun k => k = b1) w6 w9 := by rw [hw9]; exact hk8.setCell (.inl rfl) _
  have hb19 := hb18.setCell (i := 11) (.int .u64 (pnext t.job t.got).2.1.value)
  rw [← hw9] at hb19
  clear hw9
  have hb19 : Blk w9 b1 (t.told.cells ga gc) TTa := hb19
  rintro w10 hw10
  have hn10 : New w9 w10 := by rw [hw10]; exact new_drew _
  clear hw10
  have hk10 := hk9.new hn10
  have hb110 := New.blk hn10 hb19
  have hb210 : Blk w10 b2 (zeroT.cells none 0) TTa := hk10.blk hb26 (by omega)
  refine ⟨fun z => New w10 z, Keep.refl _ _, t.told.kind, t.told.client, t.told.job.nodes, t.told.job.number, t.told.job.client, t.told.job.round, t.told.job.value, ga, t.told.got.length, gc, t.told.over, t.told.bad, t.told.code, t.told.value, fun z hz => cellsAt_blk (New.blk hz hb110) rfl, ?_⟩
  refine put_k (vs := t.told.cells ga gc) hb210 rfl (Talk.single _ _ _) fun w11 hb11 hk11 => ?_
  refine ⟨t.told.kind, t.told.client, t.told.job.nodes, t.told.job.number, t.told.job.client, t.told.job.round, t.told.job.value, ga, t.told.got.length, gc, t.told.over, t.told.bad, t.told.code, t.told.value, cellsAt_blk hb11 rfl, rfl, ?_⟩
  have hk311 : Keep (fun k => k = b1 ∨ k = b2) w3 w11 := ((Keep.of_new (hn5.new hn6)).trans hk10 fun _ _ e => .inl e).trans hk11 fun _ _ e => .inr e
  refine ⟨(hn02.new hn3).trans hk311 fun k hlt e => by omega, aa, ac, rfl, ?_, fun k hk => Nat.le_trans hn02.size (hfr k hk)⟩
  refine hrd.keep hk311 (off_of hrd fun k hk e => ?_)
  have := hfr k hk
  omega
end Go.Proofs.YteaknokogenndaaGreat
