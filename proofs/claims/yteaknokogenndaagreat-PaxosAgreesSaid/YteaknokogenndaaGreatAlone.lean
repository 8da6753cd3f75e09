/- A conversation that runs alone; the sanity check of the statements of chapter 9. -/
import Derived.Test.YteaknokogenndaaGreatDrive2
set_option linter.unusedVariables false
namespace Go.Proofs.YteaknokogenndaaGreat
open Go.Eng

def alone (F : Fab) (t : Talk) : Fab × List Talk := drive F [t] [] [] 20000

theorem driveGo_len (cs sch : List Int) (es : List Event) : ∀ (f n : Nat) (F : Fab) (l : List Talk), (driveGo cs sch es f n F l).2.length = l.length
  | 0, _, _, _ => rfl
  | f + 1, n, F, l => by
    unfold driveGo
    split
    · rw [driveGo_len, turns_len]
    · exact turns_len _ _

theorem map_one {l : List TX} {t : Talk} (h : l.map TX.t = [t]) : ∃ ga gc, l = [⟨t, ga, gc⟩] := by
  cases l with
  | nil => cases h
  | cons x l =>
    rw [List.map_cons] at h
    obtain ⟨h1, h2⟩ := List.cons.inj h
    have h3 : l = [] := List.map_eq_nil_iff.1 h2
    subst h3
    exact ⟨x.ga, x.gc, by rw [← h1]⟩

theorem alone_one (F : Fab) (t : Talk) : ∃ t', (alone F t).2 = [t'] := by
  have : (alone F t).2.length = 1 := by unfold alone drive; rw [turns_len, driveGo_len]; rfl
  exact List.length_eq_one_iff.1 this

theorem alone_def (F : Fab) (t : Talk) (ga : Option Addr) (gc : Nat) : drive F ([(⟨t, ga, gc⟩ : TX)].map TX.t) [] [] 20000 = alone F t := rfl

section
attribute [local irreducible] drive alone

set_option maxHeartbeats 2000000 in
theorem Alone_c {A : Nat → Prop} {χ : Nat → Tag} {w : World} {fb : Nat} {X : FabX} (h : FabAt A χ w fb X) (hf : Fine X.pure) {t : Talk} {ga : Option Addr} {gc : Nat} (hx : TXAt A w ⟨t, ga, gc⟩) :
    Does 23 [ptr fb, t.val ga gc] w fun v w' => FPost A χ w fb (alone X.pure t).1 w' fun B => ∃ t' ga' gc', (alone X.pure t).2 = [t'] ∧ v = t'.val ga' gc' ∧ TXAt B w' ⟨t', ga', gc'⟩ := by
  refine does Tryz.func23 ?_
  refine Eq.mpr (bodegarun9_Alone_vc fb t.kind t.client t.job.nodes t.job.number t.job.client t.job.round t.job.value ga t.got.length gc t.over t.bad t.code t.value w _) ?_
  rintro b1 w1 hb1 hw1 b2 w2 hb2 hw2
  obtain ⟨hz1, hn1⟩ := box_new hb1 hw1
  obtain ⟨hz2, hn2⟩ := box_new hb2 hw2
  have hz12 : Blk w2 b1 (t.cells ga gc) TTa := New.blk hn2 hz1
  have hz2 : Blk w2 b2 (zeroT.cells none 0) TTa := hz2
  have hs12 := hn1.size
  have hs2 := hz2.lt
  clear hw1 hw2 hz1
  refine ⟨t.kind, t.client, t.job.nodes, t.job.number, t.job.client, t.job.round, t.job.value, ga, t.got.length, gc, t.over, t.bad, t.code, t.value, cellsAt_blk hz12 rfl, ?_⟩
  rintro b3 w3 hb3 hw3
  obtain ⟨hz3, hn3⟩ := box_new hb3 hw3
  have hz3 : Blk w3 b3 (t.cells ga gc) TTa := hz3
  clear hw3
  have hn03 := (hn1.new hn2).new hn3
  have hs3 := hn3.size
  have hT : TW A χ w fb (fun k => k = b2) w3 A χ X := TW.start h hn03 fun k hk => by omega
  have hmono : ∀ k, k < w.heap.size → A k ∨ k = b2 → A k := fun k hlt hc => hc.elim id fun e => by omega
  have hdn : Dat (fun k => A k ∨ k = b2) w3 none ([] : List Value) := ⟨.inl rfl, .inl rfl⟩
  have hrd : Rd w3 (some ⟨b3, 0, none⟩) (trows [⟨t, ga, gc⟩]).flatten := rd_blk hz3 (by simp [trows, Talk.cells])
  have hdr := Drive_c hT.fab hf (ts := [⟨t, ga, gc⟩]) (pc := 1) hrd (fun x hxm => by simp at hxm; rw [hxm]; exact hx.keep (Keep.of_new hn03) hmono) (by simp) (sch := []) (sa := none) (sc := 0) hdn (fun x hx => by cases hx) (es := []) (ea := none) (ec := 0) hdn (fun x hx => by cases hx) (by simp) (most := 20000) (by omega)
  refine at_call hdr ?_
  rintro v w4 hp
  obtain ⟨B', ξ', X', h3, hX3, hK3, hk3, hM3, hL3⟩ := hT.op hp
  obtain ⟨la, lc, ts', rfl, hts', how, hnB, htx'⟩ := hK3
  have hal := alone_def X.pure t ga gc
  rw [hal] at hX3 hts' how ⊢
  obtain ⟨t', ht'⟩ := alone_one X.pure t
  rw [ht'] at hts' how ⊢
  obtain ⟨ga', gc', rfl⟩ := map_one hts'
  refine ⟨_, _, _, rfl, ?_⟩
  obtain ⟨ba, oa, hae, hca, hcell⟩ := how.rd.row (trows_len [⟨t', ga', gc'⟩]) (by omega) (i := 0) rfl
  have hoa : oa = 0 := by
    rcases how.2 with ⟨he, _⟩ | ⟨g, cur, hg, _⟩
    · rw [he] at hae; cases hae
    · rw [hg] at hae; simp at hae; omega
  subst hoa
  rw [hae]
  refine idxS_mk (by omega) (by simp) ?_
  have hb24 : Blk w4 b2 (zeroT.cells none 0) TTa := (hL3 b2 rfl).trans (New.blk hn3 hz2)
  refine ⟨t'.kind, t'.client, t'.job.nodes, t'.job.number, t'.job.client, t'.job.round, t'.job.value, ga', t'.got.length, gc', t'.over, t'.bad, t'.code, t'.value, by simpa [Talk.cells] using hca, ?_⟩
  refine put_k (vs := t'.cells ga' gc') hb24 rfl (Talk.single _ _ _) fun w5 hb5 hk5 => ?_
  refine ⟨t'.kind, t'.client, t'.job.nodes, t'.job.number, t'.job.client, t'.job.round, t'.job.value, ga', t'.got.length, gc', t'.over, t'.bad, t'.code, t'.value, cellsAt_blk hb5 rfl, rfl, ?_⟩
  rw [← hX3]
  refine (h3.local hk5 fun _ e => e).done ⟨t', ga', gc', rfl, rfl, ?_⟩
  exact (htx' ⟨t', ga', gc'⟩ (by simp)).keep (hk5.mono fun _ _ e => .inr e) fun k _ e => .inl e

end

theorem CAt_c (w : World) {i : Int} (h0 : 0 ≤ i) (h1 : i < 16) : Does 27 [.int .i64 i] w fun v w' => v = .int .i64 (8 + i) ∧ w' = w := by
  refine does Tryz.func27 ?_
  rw [bodegaref1_ConsensusAt_vc]
  refine bif_dec (fun h => by omega) (fun h => bif_dec (fun h => by omega) (fun h => ⟨?_, rfl⟩))
  rw [w64 (by omega) (by omega)]

theorem Fine.turns : ∀ (l : List Talk) {F : Fab}, Fine F → Fine (turns F l).1
  | [], _, h => h
  | t :: l, F, h => by
    unfold Go.Proofs.YteaknokogenndaaGreat.turns
    exact Fine.turns l (h.turn t)

def awk : Talk := ⟨2, 0, ⟨3, 1, 0, 1, 5⟩, [], false, false, 0, 0⟩

theorem awk_run : (alone (Fab.fresh 3 1 98) awk).2.map (fun t => (t.over, t.bad, t.code, t.value)) = [(true, false, 0, 5)] := by kernel_rfl
theorem awk_mem : (alone (Fab.fresh 3 1 98) awk).1.nodes[2]?.map (fun n => (n.down, n.get 9)) = some (false, 40542292250984453) := by kernel_rfl
theorem awk_lines : (alone (Fab.fresh 3 1 98) awk).1.lines = 98 := by kernel_rfl
theorem awk_val : awk.val none 0 = .agg #[(.int .i64 2), (.int .i64 0), (.int .i64 3), (.int .i64 1), (.int .i64 0), (.int .i64 1), (.int .u64 5), (.slice none 0 0), (.bool false), (.bool false), (.int .i64 0), (.int .u64 0)] := rfl

theorem awk_tx (A : Nat → Prop) (w : World) : TXAt A w ⟨awk, none, 0⟩ := ⟨GotAt.nil _ _ _, Nat.le_refl _, ⟨rfl, ⟨by decide, by decide⟩, by decide, fun _ => by decide⟩⟩

theorem Fine.driveGo (cs sch : List Int) (es : List Event) : ∀ (f n : Nat) {F : Fab} (l : List Talk), Fine F → Fine (driveGo cs sch es f n F l).1
  | 0, _, _, _, h => h
  | f + 1, n, F, l, h => by
    unfold Go.Proofs.YteaknokogenndaaGreat.driveGo
    have h2 := (Fine.turns l (Fine.happens (cs := cs) (n := n) es h)).rstep sch n
    split
    · exact Fine.driveGo cs sch es f (n + 1) _ h2
    · exact h2

theorem Fine.alone {F : Fab} (h : Fine F) (t : Talk) : Fine (alone F t).1 := Fine.turns _ (Fine.driveGo _ _ _ _ _ _ h)

attribute [local irreducible] alone awk

/-- The sanity check holds. -/
theorem awake_c (w : World) : Does 8 [] w fun v w' => v = .bool true ∧ New w w' := by
  refine does Tryz.func8 ?_
  rw [bodegalaw9_awake_vc]
  refine at_call (Fresh_c (n := 3) (c := 1) (lines := 98) (by omega) (by omega) (by omega)) ?_
  rintro v w1 ⟨fb, A, χ, X, rfl, hF, hn1, hA, hX⟩
  refine ⟨_, _, rfl, bif_f rfl ?_⟩
  have hfine : Fine X.pure := by rw [hX]; exact Fine.fresh (by omega) (by omega) (by omega)
  have htx := awk_tx A w1
  rw [← awk_val]
  refine at_call (Alone_c hF hfine htx) ?_
  rintro v w2 ⟨A2, χ2, X2, nx2, hF2, hX2, t', ga', gc', ht', rfl, _⟩
  rw [hX] at ht' hX2
  have hrun := awk_run
  rw [ht'] at hrun
  simp only [List.map_cons, List.map_nil, List.cons.injEq, Prod.mk.injEq, and_true] at hrun
  obtain ⟨r1, r2, r3, r4⟩ := hrun
  refine ⟨t'.kind, t'.client, t'.job.nodes, t'.job.number, t'.job.client, t'.job.round, t'.job.value, ga', t'.got.length, gc', t'.over, t'.bad, t'.code, t'.value, rfl, ?_⟩
  refine box_k (vs := t'.cells ga' gc') rfl (Talk.single _ _ _) fun b1 w4 hb1 hz4 hn4 => ?_
  refine at_call (CAt_c _ (by omega) (by omega)) ?_
  rintro v w5 ⟨rfl, rfl⟩
  refine ⟨_, rfl, ?_⟩
  have hF4 := hF2.new hn4
  have hmem := awk_mem
  rw [← hX2] at hmem
  obtain ⟨x, hx, hxm⟩ : ∃ x, X2.nodes[2]? = some x ∧ (x.n.down, x.n.get 9) = (false, 40542292250984453) := by
    cases hx : X2.nodes[2]? with
    | none => simp [FabX.pure, hx] at hmem
    | some x =>
      refine ⟨x, rfl, ?_⟩
      simp only [FabX.pure, List.getElem?_map, hx, Option.map_some] at hmem
      exact Option.some.inj hmem
  simp only [Prod.mk.injEq] at hxm
  have hfine2 : Fine X2.pure := by rw [hX2]; exact Fine.alone (hX ▸ hfine) _
  have hxw : x.n.words.length = X2.lines * 8 := hfine2.good.ok.words x.n (List.mem_map.2 ⟨x, List.mem_of_getElem? hx, rfl⟩)
  have hxl : X2.lines = 98 := by have := awk_lines; rw [← hX2] at this; exact this
  refine at_call (Word_c hF4 hx (at_ := 9) (by omega) hxm.1) ?_
  rintro v w6 ⟨rfl, hn6⟩
  have hz6 := New.blk hn6 hz4
  refine ⟨_, _, rfl, _, hz6.cell (i := 8) rfl, bif_t r1 ⟨_, hz6.cell (i := 9) rfl, bif_t (by rw [r2]; rfl) ⟨_, hz6.cell (i := 10) rfl, bif_t (by rw [r3]; rfl) ⟨_, hz6.cell (i := 11) rfl, bif_t (by rw [r4]; rfl) (bif_t rfl ⟨by rw [hxm.2]; rfl, ?_⟩)⟩⟩⟩⟩
  have hn02 : New w w2 := hn1.trans nx2.keep fun k hlt hc => by
    have := hA k (hF.avoid k hc)
    omega
  exact (hn02.new hn4).new hn6
end Go.Proofs.YteaknokogenndaaGreat
