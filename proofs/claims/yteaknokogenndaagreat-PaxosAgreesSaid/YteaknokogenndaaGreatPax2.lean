/- Package talk, and the reading part of package paxos. -/
import Derived.Test.YteaknokogenndaaGreatPax1
set_option linter.unusedVariables false
namespace Go.Proofs.YteaknokogenndaaGreat
open Go.Eng

structure TkX where
  ga : Option Addr
  gl : Nat
  gc : Nat
  aa : Option Addr
  al : Nat
  ac : Nat
  wrong : Bool

def TkX.cells (T : TkX) : List Value := [.slice T.ga T.gl T.gc, .slice T.aa T.al T.ac, .bool T.wrong]

structure Row where
  a : Option Addr
  c : Nat
  raw : List DoneV

def rowsV (rows : List Row) : List Value := rows.map fun r => .slice r.a r.raw.length r.c

/-- Completions of batches in memory. -/
def GotAt (A : Nat → Prop) (w : World) (a : Option Addr) (G : List (List Done)) : Prop :=
  ∃ rows : List Row, rows.length = G.length ∧ Rd w a (rowsV rows) ∧ (rowsV rows = [] ∨ Off A a) ∧
    ∀ (i : Nat) (r : Row) (ds : List Done), rows[i]? = some r → G[i]? = some ds → Rd w r.a (drows r.raw).flatten ∧ ((drows r.raw).flatten = [] ∨ Off A r.a) ∧ Ds A w r.raw ds ∧ ds.length ≤ 1024

theorem GotAt.nil (A : Nat → Prop) (w : World) (a : Option Addr) : GotAt A w a [] := ⟨[], rfl, .inl rfl, .inl rfl, fun i r ds h => by simp at h⟩

theorem GotAt.head {A : Nat → Prop} {w : World} {a : Option Addr} {d : List Done} {G : List (List Done)} (h : GotAt A w a (d :: G)) :
    ∃ (b o : Nat) (r : Row), a = some ⟨b, o, none⟩ ∧ w.cell? ⟨b, o, none⟩ = some (.slice r.a r.raw.length r.c) ∧ Rd w r.a (drows r.raw).flatten ∧ Ds A w r.raw d ∧ d.length ≤ 1024 ∧ GotAt A w (some ⟨b, o + 1, none⟩) G := by
  obtain ⟨rows, hl, hr, ho, hd⟩ := h
  cases rows with
  | nil => simp at hl
  | cons r rows =>
    rcases hr with hr | ⟨b, o, rfl, hc⟩
    · simp [rowsV] at hr
    · obtain ⟨h1, h2, h3, h4⟩ := hd 0 r d rfl rfl
      refine ⟨b, o, r, rfl, hc 0 _ rfl, h1, h3, h4, rows, by simpa using hl, ?_, ?_, fun i r' ds h5 h6 => hd (i + 1) r' ds (by simpa using h5) (by simpa using h6)⟩
      · refine .inr ⟨b, o + 1, rfl, fun j u hu => ?_⟩
        rw [Nat.add_assoc, Nat.add_comm 1 j]
        exact hc (j + 1) u (by simpa [rowsV] using hu)
      · rcases ho with ho | ho
        · simp [rowsV] at ho
        · exact .inr ho

theorem GotAt.new {A : Nat → Prop} {w w' : World} {a : Option Addr} {G : List (List Done)} (h : GotAt A w a G) (hn : New w w') : GotAt A w' a G := by
  obtain ⟨rows, hl, hr, ho, hd⟩ := h
  refine ⟨rows, hl, hr.new hn, ho, fun i r ds h5 h6 => ?_⟩
  obtain ⟨h1, h2, h3, h4⟩ := hd i r ds h5 h6
  exact ⟨h1.new hn, h2, h3.keep (Keep.of_new hn) (fun _ _ h => h), h4⟩

theorem fits_eq {A : Nat → Prop} {w : World} {v : Verb} {d : DoneV} {x : Done} (h : DoneAt A w d x) : fits v.v d = fitP v x := by
  unfold fits fitP
  rw [h.code, h.len]

theorem fitAll_eq {A : Nat → Prop} {w : World} {vs : List Verb} {raw : List DoneV} {ds : List Done} (h : Ds A w raw ds) : fitAll (vs.map Verb.v) raw = fitL vs ds := by
  unfold fitAll fitL
  rw [List.length_map, h.1]
  congr 1
  obtain ⟨h1, h2⟩ := h
  induction vs generalizing raw ds with
  | nil => simp
  | cons v vs ih =>
    cases raw with
    | nil => cases ds with
      | nil => simp
      | cons => simp at h1
    | cons r raw => cases ds with
      | nil => simp at h1
      | cons d ds =>
        simp only [List.map_cons, List.zip_cons_cons, List.all_cons]
        rw [fits_eq (h2 0 r d rfl rfl), ih (by simpa using h1) fun i v x hv hx => h2 (i + 1) v x (by simpa using hv) (by simpa using hx)]

theorem fitL_len {vs : List Verb} {ds : List Done} (h : fitL vs ds = true) : vs.length = ds.length := by
  unfold fitL at h
  simp at h
  exact h.1

theorem batch_len {G : List (List Done)} {vs : List Verb} : (batch G vs).done.length ≤ vs.length := by
  unfold batch
  split
  · simp
  · cases G with
    | nil => simp
    | cons d G =>
      simp only
      split
      · rename_i h; rw [fitL_len h]; exact Nat.le_refl _
      · simp

theorem Batch_c {A : Nat → Prop} {w0 u : World} {tb : Nat} {T : TkX} {G : List (List Done)} (hn : New w0 u) (hl : w0.heap.size ≤ tb) (hb : Blk u tb T.cells TTk) (hg : GotAt A w0 T.ga G) (hgl : T.gl = G.length) (hgc : T.gl ≤ T.gc)
    {vs : List Verb} {aa : Option Addr} {ac : Nat} (hr : Rd u aa (vrows (vs.map Verb.v)).flatten) (hvl : vs.length ≤ 1000000) :
    Does 107 [ptr tb, .slice aa vs.length ac] u fun v u' => ∃ (T' : TkX) (da : Option Addr) (dc : Nat) (raw : List DoneV), v = .tuple #[.slice da raw.length dc, .bool (batch G vs).ok] ∧ Blk u' tb T'.cells TTk ∧ Keep (fun k => k = tb) u u' ∧
      Rd w0 da (drows raw).flatten ∧ Ds A w0 raw (batch G vs).done ∧ GotAt A w0 T'.ga (batch G vs).got ∧ T'.gl = (batch G vs).got.length ∧ T'.gl ≤ T'.gc ∧ T'.wrong = (T.wrong || (batch G vs).wrong) ∧
      (match (batch G vs).ask with | none => T'.aa = T.aa ∧ T'.al = T.al ∧ T'.ac = T.ac | some _ => T'.aa = aa ∧ T'.al = vs.length ∧ T'.ac = ac) := by
  refine does Tryz.func107 ?_
  rw [ptr, talk_Talk_Batch_vc]
  have hds0 : Ds A w0 [] [] := ⟨rfl, fun i v x hv => by simp at hv⟩
  unfold batch
  refine bif_beq (fun h0 => ?_) (fun h0 => ⟨_, _, _, hb.cell rfl, bif_beq (fun h1 => ?_) (fun h1 => ?_)⟩)
  · have hv0 : vs.length = 0 := by omega
    rw [if_pos hv0]
    exact ⟨T, none, 0, [], rfl, hb, Keep.refl _ _, .inl rfl, hds0, hg, hgl, hgc, by simp, rfl, rfl, rfl⟩
  · have hv0 : ¬ vs.length = 0 := by omega
    have hG : G = [] := List.eq_nil_of_length_eq_zero (by omega)
    subst hG
    rw [if_neg hv0]
    refine ⟨⟨_, hb.cell rfl⟩, hb.frozen, ?_⟩
    rintro u1 rfl
    exact ⟨{ T with aa := aa, al := vs.length, ac := ac }, none, 0, [], rfl, hb.setCell _, keep_setCell _ _ _ _, .inl rfl, hds0, GotAt.nil _ _ _, hgl, hgc, by simp, rfl, rfl, rfl⟩
  · have hv0 : ¬ vs.length = 0 := by omega
    rw [if_neg hv0]
    cases G with
    | nil => simp at hgl; omega
    | cons d G' =>
      simp only
      obtain ⟨b, o, r, ha, hc, hrd, hds, hdl, htl⟩ := hg.head
      have hne : b ≠ tb := by
        have h1 : b < w0.heap.size := by
          have := hc
          unfold World.cell? at this
          by_cases hlt : b < w0.heap.size
          · exact hlt
          · simp [Array.getElem?_eq_none (Nat.le_of_not_lt hlt)] at this
        omega
      have hcell : ∀ z, New w0 z → z.cell? ⟨b, o, none⟩ = some (.slice r.a r.raw.length r.c) := by
        intro z hz
        have h2 : Rd w0 (some ⟨b, o, none⟩) [.slice r.a r.raw.length r.c] := .inr ⟨b, o, rfl, fun j u hu => by
          cases j with
          | zero => simp at hu; subst hu; exact hc
          | succ j => simp at hu⟩
        exact (h2.new hz).cell (j := 0) rfl
      refine ⟨_, _, _, hb.cell rfl, ?_⟩
      rw [ha]
      refine idxS_mk (by omega) (by omega) ?_
      refine ⟨_, _, _, hcell u hn, ?_⟩
      have hfit : fitAll (vs.map Verb.v) r.raw = fitL vs d := fitAll_eq hds
      have hrl := hds.1
      have hlen : (vs.map Verb.v).length = vs.length := List.length_map _
      rw [← hlen]
      refine at_call (Fit_c hr (hrd.new hn) (by omega) (by omega)) ?_
      rintro v u2 ⟨rfl, hn2⟩
      rw [hfit]
      refine ⟨_, rfl, bif_not (fun hf => ?_) (fun hf => ?_)⟩
      · have hb2 := New.blk hn2 hb
        rw [hf]
        refine ⟨⟨_, hb2.cell rfl⟩, hb2.frozen, ?_⟩
        rintro u3 rfl
        exact ⟨{ T with wrong := true }, none, 0, [], rfl, hb2.setCell _, (Keep.of_new hn2).trans (keep_setCell _ _ _ _) (fun _ _ h => h), .inl rfl, hds0, hg, hgl, hgc, by simp, rfl, rfl, rfl⟩
      · rw [hf]
        rintro u3 hu3
        have hn3 : New u u3 := by rw [hu3]; exact hn2.drew
        have hb3 := New.blk hn3 hb
        refine ⟨fun z => New u3 z, Keep.refl _ _, _, _, _, fun z hz => (New.blk hz hb3).cell rfl, ?_⟩
        rw [ha]
        refine idxS_mk (by omega) (by omega) ?_
        refine ⟨_, _, _, fun z hz => hcell z ((hn.new hn3).new hz), _, _, _, fun z hz => (New.blk hz hb3).cell rfl, ?_⟩
        rw [ha]
        refine ⟨by omega, by omega, by omega, by omega, by omega, ⟨_, hb3.cell rfl⟩, hb3.frozen, ?_⟩
        rintro u4 rfl
        have hgl' : T.gl = G'.length + 1 := by simpa using hgl
        refine ⟨{ T with ga := if (T.gc : Int) = 1 then some ⟨b, o, none⟩ else (some ⟨b, o, none⟩ : Option Addr).map (·.add (Int.toNat 1 * 1)), gl := Int.toNat T.gl - Int.toNat 1, gc := Int.toNat T.gc - Int.toNat 1 }, r.a, r.c, r.raw, rfl, hb3.setCell _, (Keep.of_new hn3).trans (keep_setCell _ _ _ _) (fun _ _ h => h), hrd, hds, ?_, ?_, ?_, by simp, rfl, rfl, rfl⟩
        · show GotAt A w0 (if (T.gc : Int) = 1 then _ else _) G'
          split
          · have : G' = [] := List.eq_nil_of_length_eq_zero (by omega)
            rw [this]
            exact GotAt.nil _ _ _
          · exact htl
        · show Int.toNat (T.gl : Int) - Int.toNat 1 = G'.length
          omega
        · show Int.toNat (T.gl : Int) - Int.toNat 1 ≤ Int.toNat (T.gc : Int) - Int.toNat 1
          omega
end Go.Proofs.YteaknokogenndaaGreat
