/- One compute node of a conversation acts. -/
import Derived.Test.YteaknokogenndaaGreatTail
set_option linter.unusedVariables false
namespace Go.Proofs.YteaknokogenndaaGreat
open Go.Eng

/-! ### What a proposal asks -/

structure PlainV (v : Verb) : Prop where
  words : v.words = []
  old : U64 v.old
  new : U64 v.new
  key : U64 v.key
  boot : I64 v.boot

theorem PlainV.at_ {v : Verb} (h : PlainV v) (M : Nat → Prop) (w : World) : VerbAt M w v.v v := by
  refine ⟨rfl, .inl (by rw [h.words]; rfl), fun _ => h.words, .inl h.words, (fun u hu => by rw [h.words] at hu; cases hu), h.new, h.old, h.key, h.boot, ?_, by rw [h.words]; simp⟩
  show v.words.length ≤ 0
  rw [h.words]
  exact Nat.le_refl _

theorem plain_vs {vs : List Verb} (h : ∀ v ∈ vs, PlainV v) (M : Nat → Prop) (w : World) : Vs M w (vs.map Verb.v) vs := by
  refine ⟨by simp, fun i v x hv hx => ?_⟩
  rw [List.getElem?_map, hx] at hv
  cases hv
  exact (h x (List.mem_of_getElem? hx)).at_ M w

def GU (G : List (List Done)) : Prop := ∀ ds ∈ G, ∀ d ∈ ds, U64 (wordOf d)

theorem GotAt.gu {A : Nat → Prop} {w : World} {a : Option Addr} {G : List (List Done)} (h : GotAt A w a G) : GU G := by
  obtain ⟨rows, hl, _, _, hd⟩ := h
  intro ds hds d hdm
  obtain ⟨i, hi⟩ := List.mem_iff_getElem?.1 hds
  obtain ⟨k, hk⟩ := List.mem_iff_getElem?.1 hdm
  have hil := (List.getElem?_eq_some_iff.1 hi).1
  have hkl := (List.getElem?_eq_some_iff.1 hk).1
  obtain ⟨_, _, h3, _⟩ := hd i rows[i] ds (List.getElem?_eq_getElem (by omega)) hi
  have h31 := h3.1
  exact wordOf_u64 (h3.2 k _ d (List.getElem?_eq_getElem (by omega)) hk)

theorem batch_gu {G : List (List Done)} {vs : List Verb} (h : GU G) : (∀ d ∈ (batch G vs).done, U64 (wordOf d)) ∧ GU (batch G vs).got := by
  unfold batch
  split
  · exact ⟨fun d hd => by simp at hd, h⟩
  · cases G with
    | nil => exact ⟨fun d hd => by simp at hd, fun ds hds => by simp at hds⟩
    | cons x G =>
      dsimp only
      split
      · exact ⟨h x List.mem_cons_self, fun ds hds => h ds (List.mem_cons_of_mem _ hds)⟩
      · exact ⟨fun d hd => by simp at hd, h⟩

theorem readGo_u64 : ∀ (i : Nat) (ds : List Done) (acc : List Acc) (g : Int), (∀ d ∈ ds, U64 (wordOf d)) → (∀ a ∈ acc, U64 a.word) → ∀ a ∈ (readGo i ds acc g).1, U64 a.word
  | _, [], acc, g, _, h => h
  | i, d :: ds, acc, g, hd, h => by
    unfold readGo
    split
    · refine readGo_u64 (i + 1) ds _ _ (fun x hx => hd x (List.mem_cons_of_mem _ hx)) fun a ha => ?_
      rcases List.mem_append.1 ha with h1 | h1
      · exact h a h1
      · simp at h1; rw [h1]; exact hd d List.mem_cons_self
    · exact readGo_u64 (i + 1) ds _ _ (fun x hx => hd x (List.mem_cons_of_mem _ hx)) h

theorem swapGo_u64 {nx : Int → Int} (hn : ∀ x, U64 x → U64 (nx x)) : ∀ (l : List Acc) (ds : List Done) (n : Nat) (acc : List Acc) (g : Int), (∀ d ∈ ds, U64 (wordOf d)) → (∀ a ∈ acc, U64 a.word) → ∀ a ∈ (swapGo nx l ds n acc g).2.1, U64 a.word
  | [], _, n, acc, g, _, h => by simpa [swapGo] using h
  | a :: l, [], n, acc, g, _, h => by simpa [swapGo] using h
  | a :: l, d :: ds, n, acc, g, hd, h => by
    have hd' : ∀ x ∈ ds, U64 (wordOf x) := fun x hx => hd x (List.mem_cons_of_mem _ hx)
    unfold swapGo
    split
    · exact swapGo_u64 hn l ds _ _ _ hd' h
    · split
      · exact swapGo_u64 hn l ds _ _ _ hd' h
      · refine swapGo_u64 hn l ds _ _ _ hd' fun x hx => ?_
        rcases List.mem_append.1 hx with h1 | h1
        · exact h x h1
        · simp at h1; rw [h1]; exact hn _ (hd d List.mem_cons_self)

theorem u64_zero : U64 0 := ⟨by decide, by decide⟩

theorem readAsk_plain (j : Job) : ∀ v ∈ readAsk j, PlainV v := by
  intro v hv
  simp only [readAsk, List.mem_map] at hv
  obtain ⟨i, _, rfl⟩ := hv
  exact ⟨rfl, u64_zero, u64_zero, u64_zero, ⟨by simp [rdVerb], by simp [rdVerb]⟩⟩

theorem swapAsk_plain (j : Job) {nx : Int → Int} (hn : ∀ x, U64 x → U64 (nx x)) {l : List Acc} (hl : ∀ a ∈ l, U64 a.word) : ∀ v ∈ swapAsk j nx l, PlainV v := by
  intro v hv
  simp only [swapAsk, List.mem_map] at hv
  obtain ⟨a, ha, rfl⟩ := hv
  exact ⟨rfl, hl a ha, hn _ (hl a ha), u64_zero, ⟨by simp [casVerb], by simp [casVerb]⟩⟩

theorem run_plain {j : Job} {b g : Int} {G : List (List Done)} (hG : GU G) (hb : 0 ≤ b) (hv : 0 ≤ j.value) {vs : List Verb} (h : (run1 j b g G).ask = some vs) : ∀ v ∈ vs, PlainV v := by
  unfold run1 at h
  dsimp only at h
  obtain ⟨b1, b2⟩ := batch_gu (vs := readAsk j) hG
  have hs := readGo_u64 0 _ [] g b1 (fun a ha => by simp at ha)
  split at h
  · rw [batch_ask h]; exact readAsk_plain j
  · split at h
    · rw [batch_ask h]; exact readAsk_plain j
    · have hc : ∀ a ∈ candOf b (readGo 0 (batch G (readAsk j)).done [] g).1, U64 a.word := fun a ha => hs a (List.mem_filter.1 ha).1
      have hp : ∀ x, U64 x → U64 (promiseW b x) := fun x _ => cwOf_u64 hb (cwA_in _).1 (cwV_in _).1
      unfold run2 at h
      dsimp only at h
      obtain ⟨b3, b4⟩ := batch_gu (vs := swapAsk j (promiseW b) (candOf b (readGo 0 (batch G (readAsk j)).done [] g).1)) b2
      split at h
      · rw [batch_ask h]; exact swapAsk_plain j hp hc
      · split at h
        · rw [batch_ask h]; exact swapAsk_plain j hp hc
        · have hs2 := swapGo_u64 hp (candOf b (readGo 0 (batch G (readAsk j)).done [] g).1) _ 0 [] (readGo 0 (batch G (readAsk j)).done [] g).2 b3 (fun a ha => by simp at ha)
          unfold run3 at h
          dsimp only at h
          split at h
          · rw [batch_ask h]; exact swapAsk_plain j (fun _ _ => cwOf_u64 hb hb (valueGo_nonneg _ _ _ hv)) hs2
          · split at h
            · rw [batch_ask h]; exact swapAsk_plain j (fun _ _ => cwOf_u64 hb hb (valueGo_nonneg _ _ _ hv)) hs2
            · rw [batch_ask h]; exact swapAsk_plain j (fun _ _ => cwOf_u64 hb hb (valueGo_nonneg _ _ _ hv)) hs2

theorem pnext_plain {j : Job} {G : List (List Done)} (hG : GU G) (hv : 0 ≤ j.value) : ∀ v ∈ (pnext j G).1, PlainV v := by
  by_cases h : j.valid = 0
  · rw [pnext_ok j G h]
    obtain ⟨_, _, v3, v4, _⟩ := jvalid_zero h
    cases ha : (run1 j (ballot j.round j.client) 0 G).ask with
    | some vs => exact run_plain hG (by unfold ballot; omega) hv ha
    | none =>
      dsimp only
      split <;> (intro v hv; cases hv)
  · unfold pnext
    rw [if_pos h]
    intro v hv
    cases hv

/-! ### A turn -/

def Talk.fed (t : Talk) : Option (List Done) → Talk
  | none => t
  | some d => { t with got := t.got ++ [d] }
def Talk.fail (t : Talk) : Talk := { t with over := true, bad := true }

def tailP (F : Fab) (t : Talk) : Fab × Talk :=
  if 200 < t.got.length then (F, t.fail) else if (pnext t.job t.got).2.2 = true then (F, t.told)
  else if (F.post t.client (pnext t.job t.got).1).1 ≠ 0 then ((F.post t.client (pnext t.job t.got).1).2, t.told.fail) else ((F.post t.client (pnext t.job t.got).1).2, t.told)

def turn (F : Fab) (t : Talk) : Fab × Talk :=
  if t.over = true ∨ F.alive t.client = false ∨ 0 < F.waiting t.client then (F, t) else tailP (F.take t.client).2 (t.fed (F.take t.client).1)

def TPost (A : Nat → Prop) (χ : Nat → Tag) (w : World) (fb : Nat) (r : Fab × Talk) (v : Value) (w' : World) : Prop :=
  FPost A χ w fb r.1 w' fun B => ∃ ga gc, v = r.2.val ga gc ∧ GotAt B w' ga r.2.got ∧ r.2.got.length ≤ gc

theorem tret_k {z : World} {b1 b2 : Nat} {t : Talk} {ga : Option Addr} {gc : Nat} {cs : List Value} {R : Value → World → Prop} (hb1 : Blk z b1 (t.cells ga gc) TTa) (hb2 : Blk z b2 cs TTa) (hc : cs.length = 12) (hR : ∀ w', Keep (fun k => k = b2) z w' → R (t.val ga gc) w') :
    ∃ (x1 x2 x3 x4 x5 x6 x7 : Int) (x8 : Option Addr) (x9 x10 : Nat) (x11 x12 : Bool) (x13 x14 : Int), cellsAt z ⟨b1, 0, none⟩ 0 [.int .i64 x1, .int .i64 x2, .int .i64 x3, .int .i64 x4, .int .i64 x5, .int .i64 x6, .int .u64 x7, .slice x8 x9 x10, .bool x11, .bool x12, .int .i64 x13, .int .u64 x14] ∧
      wrAt z ⟨b2, 0, none⟩ 0 [.int .i64 x1, .int .i64 x2, .int .i64 x3, .int .i64 x4, .int .i64 x5, .int .i64 x6, .int .u64 x7, .slice x8 x9 x10, .bool x11, .bool x12, .int .i64 x13, .int .u64 x14] ∧
      ∀ w', w' = puts z ⟨b2, 0, none⟩ 0 [.int .i64 x1, .int .i64 x2, .int .i64 x3, .int .i64 x4, .int .i64 x5, .int .i64 x6, .int .u64 x7, .slice x8 x9 x10, .bool x11, .bool x12, .int .i64 x13, .int .u64 x14] →
        ∃ (y1 y2 y3 y4 y5 y6 y7 : Int) (y8 : Option Addr) (y9 y10 : Nat) (y11 y12 : Bool) (y13 y14 : Int), cellsAt w' ⟨b2, 0, none⟩ 0 [.int .i64 y1, .int .i64 y2, .int .i64 y3, .int .i64 y4, .int .i64 y5, .int .i64 y6, .int .u64 y7, .slice y8 y9 y10, .bool y11, .bool y12, .int .i64 y13, .int .u64 y14] ∧ w' = w' ∧
          R (.agg #[.int .i64 y1, .int .i64 y2, .int .i64 y3, .int .i64 y4, .int .i64 y5, .int .i64 y6, .int .u64 y7, .slice y8 y9 y10, .bool y11, .bool y12, .int .i64 y13, .int .u64 y14]) w' := by
  refine ⟨t.kind, t.client, t.job.nodes, t.job.number, t.job.client, t.job.round, t.job.value, ga, t.got.length, gc, t.over, t.bad, t.code, t.value, cellsAt_blk hb1 rfl, ?_⟩
  refine put_k (vs := t.cells ga gc) hb2 (by rw [hc]; rfl) (Talk.single _ _ _) fun w' hb' hk' => ?_
  exact ⟨t.kind, t.client, t.job.nodes, t.job.number, t.job.client, t.job.round, t.job.value, ga, t.got.length, gc, t.over, t.bad, t.code, t.value, cellsAt_blk hb' rfl, rfl, hR w' hk'⟩

theorem tdone {A : Nat → Prop} {χ : Nat → Tag} {w z w' : World} {fb b1 b2 : Nat} {B : Nat → Prop} {ξ : Nat → Tag} {X : FabX} {t : Talk} {ga : Option Addr} {gc : Nat} (h : TW A χ w fb (fun k => k = b1 ∨ k = b2) z B ξ X) (hg : GotAt (fun k => B k ∨ k = b1 ∨ k = b2) z ga t.got) (hgc : t.got.length ≤ gc) (hk : Keep (fun k => k = b2) z w') :
    TPost A χ w fb (X.pure, t) (t.val ga gc) w' :=
  (h.local hk fun _ e => .inr e).done ⟨ga, gc, rfl, hg.keep (hk.mono fun _ _ e => .inr (.inr e)) fun k _ hb => .inl hb, hgc⟩

set_option maxHeartbeats 2000000 in
theorem tail_c {A : Nat → Prop} {χ : Nat → Tag} {w z : World} {fb b1 b2 : Nat} {B : Nat → Prop} {ξ : Nat → Tag} {X : FabX} {t : Talk} {ga : Option Addr} {gc : Nat} (h : TW A χ w fb (fun k => k = b1 ∨ k = b2) z B ξ X) (hok : Good X.pure) (hne : b1 ≠ b2)
    (hb1 : Blk z b1 (t.cells ga gc) TTa) {cs : List Value} (hb2 : Blk z b2 cs TTa) (hcs : cs.length = 12) (hg : GotAt (fun k => B k ∨ k = b1 ∨ k = b2) z ga t.got) (hgc : t.got.length ≤ gc) (hk : t.kind = 2) (hv : U64 t.job.value) :
    TurnTail fb b1 b2 z (TPost A χ w fb (tailP X.pure t)) := by
  unfold TurnTail tailP
  refine ⟨_, _, _, hb1.cell rfl, bif_dec (fun hc => ?_) (fun hc => ?_)⟩
  · rw [if_pos (by omega)]
    refine ⟨⟨_, hb1.cell rfl⟩, hb1.frozen, ?_⟩
    rintro z1 hz1
    have hk1 : Keep (fun k => k = b1) z z1 := by rw [hz1]; exact keep_setCell _ _ _ _
    have hb11 := hb1.setCell (i := 8) (.bool true)
    rw [← hz1] at hb11
    clear hz1
    refine ⟨⟨_, hb11.cell rfl⟩, hb11.frozen, ?_⟩
    rintro z2 hz2
    have hk2 : Keep (fun k => k = b1) z z2 := by rw [hz2]; exact hk1.setCell (.inl rfl) _
    have hb12 := hb11.setCell (i := 9) (.bool true)
    rw [← hz2] at hb12
    clear hz2
    have hb12 : Blk z2 b1 (t.fail.cells ga gc) TTa := hb12
    refine tret_k hb12 (hk2.blk hb2 fun e => hne e.symm) hcs fun w' hk' => ?_
    exact tdone (t := t.fail) (h.local hk2 fun _ e => .inl e) (hg.keep (hk2.mono fun _ _ e => .inr (.inl e)) fun _ _ hb => hb) hgc hk'
  · rw [if_neg (by omega)]
    refine ⟨t.kind, t.client, t.job.nodes, t.job.number, t.job.client, t.job.round, t.job.value, ga, t.got.length, gc, t.over, t.bad, t.code, t.value, cellsAt_blk hb1 rfl, ?_⟩
    refine at_call (next_c hg hgc hk hv) ?_
    have hpl := pnext_plain (j := t.job) hg.gu hv.1
    rintro v z1 ⟨hn1, aa, ac, rfl, hrd, hfr⟩
    refine ⟨_, _, _, t.told.kind, t.told.client, t.told.job.nodes, t.told.job.number, t.told.job.client, t.told.job.round, t.told.job.value, ga, t.told.got.length, gc, t.told.over, t.told.bad, t.told.code, t.told.value, rfl, ?_⟩
    have hb1l := hb1.lt
    have hb2l := hb2.lt
    refine put_k (vs := t.told.cells ga gc) (New.blk hn1 hb1) rfl (Talk.single _ _ _) fun z2 hb22 hk2 => ?_
    have hkz2 : Keep (fun k => k = b1) z z2 := (Keep.of_new hn1).trans hk2 fun _ _ e => e
    have h2 := (h.new hn1).local hk2 fun _ e => .inl e
    have hg2 := hg.keep (A' := fun k => B k ∨ k = b1 ∨ k = b2) (hkz2.mono fun _ _ e => .inr (.inl e)) fun _ _ hb => hb
    have hb2z : Blk z2 b2 cs TTa := hkz2.blk hb2 fun e => hne e.symm
    have hrd2 : Rd z2 aa (vrows ((pnext t.job t.got).1.map Verb.v)).flatten := hrd.keep hk2 (off_of hrd fun k hk e => by have := hfr k hk; omega)
    refine ⟨_, hb22.cell rfl, bif_not (fun ho => ?_) (fun ho => ?_)⟩
    · have ho' : (pnext t.job t.got).2.2 = false := ho
      rw [if_neg (by rw [ho']; simp)]
      refine ⟨_, hb22.cell rfl, ?_⟩
      have hoff : ((vrows ((pnext t.job t.got).1.map Verb.v)).flatten = []) ∨ Off (fun k => B k ∨ k = b1 ∨ k = b2) aa := off_of hrd2 fun k hk e => by
        have h3 := hfr k hk
        have h4 := h.fab.low k e
        omega
      have hpost := Post_c h2.fab hok.ok t.client (lcap := ac) hrd2 hoff (plain_vs hpl _ z2)
      rw [List.length_map] at hpost
      refine at_call hpost ?_
      rintro v z3 ⟨rfl, hp⟩
      obtain ⟨B', ξ', X', h3, hX3, _, hk3, hM3, hL3⟩ := h2.op hp
      have hb13 : Blk z3 b1 (t.told.cells ga gc) TTa := (hL3 b1 (.inl rfl)).trans hb22
      have hb23 : Blk z3 b2 cs TTa := (hL3 b2 (.inr rfl)).trans hb2z
      have hg3 := hg2.keep (A' := fun k => B' k ∨ k = b1 ∨ k = b2) hk3 hM3
      refine ⟨_, rfl, bif_bne (fun hc2 => ?_) (fun hc2 => ?_)⟩
      · rw [if_pos hc2]
        refine ⟨⟨_, hb13.cell rfl⟩, hb13.frozen, ?_⟩
        rintro y1 hy1
        have hky1 : Keep (fun k => k = b1) z3 y1 := by rw [hy1]; exact keep_setCell _ _ _ _
        have hby1 := hb13.setCell (i := 8) (.bool true)
        rw [← hy1] at hby1
        clear hy1
        refine ⟨⟨_, hby1.cell rfl⟩, hby1.frozen, ?_⟩
        rintro y2 hy2
        have hky2 : Keep (fun k => k = b1) z3 y2 := by rw [hy2]; exact hky1.setCell (.inl rfl) _
        have hby2 := hby1.setCell (i := 9) (.bool true)
        rw [← hy2] at hby2
        clear hy2
        have hby2 : Blk y2 b1 (t.told.fail.cells ga gc) TTa := hby2
        refine tret_k hby2 (hky2.blk hb23 fun e => hne e.symm) hcs fun w' hk' => ?_
        rw [← hX3]
        exact tdone (t := t.told.fail) (h3.local hky2 fun _ e => .inl e) (hg3.keep (hky2.mono fun _ _ e => .inr (.inl e)) fun _ _ hb => hb) hgc hk'
      · rw [if_neg (fun e => e hc2)]
        refine tret_k hb13 hb23 hcs fun w' hk' => ?_
        rw [← hX3]
        exact tdone (t := t.told) h3 hg3 hgc hk'
    · have ho' : (pnext t.job t.got).2.2 = true := ho
      rw [if_pos ho']
      refine tret_k hb22 hb2z hcs fun w' hk' => ?_
      exact tdone (t := t.told) h2 hg2 hgc hk'
end Go.Proofs.YteaknokogenndaaGreat
