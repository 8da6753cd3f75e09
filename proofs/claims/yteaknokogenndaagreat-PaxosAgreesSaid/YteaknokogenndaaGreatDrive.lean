/- Conversations are driven on a fabric under a schedule with events. -/
import Derived.Test.YteaknokogenndaaGreatRun
set_option linter.unusedVariables false
namespace Go.Proofs.YteaknokogenndaaGreat
open Go.Eng

/-! ### The model -/

def turns : Fab → List Talk → Fab × List Talk
  | F, [] => (F, [])
  | F, t :: ts => ((turns (turn F t).1 ts).1, (turn F t).2 :: (turns (turn F t).1 ts).2)

def happens (F : Fab) (cs : List Int) (n : Nat) : List Event → Fab
  | [] => F
  | e :: es => happens (if e.at_ % 60 = n then F.happen cs e else F) cs n es

def driveGo (cs sch : List Int) (es : List Event) : Nat → Nat → Fab → List Talk → Fab × List Talk
  | 0, _, F, l => (F, l)
  | f + 1, n, F, l =>
    if (rstep (turns (happens F cs n es) l).1 sch n).1 = true then driveGo cs sch es f (n + 1) (rstep (turns (happens F cs n es) l).1 sch n).2 (turns (happens F cs n es) l).2
    else ((rstep (turns (happens F cs n es) l).1 sch n).2, (turns (happens F cs n es) l).2)

def drive (F : Fab) (l : List Talk) (sch : List Int) (es : List Event) (most : Nat) : Fab × List Talk :=
  turns (driveGo (l.map Talk.client) sch es most 0 F l).1 (driveGo (l.map Talk.client) sch es most 0 F l).2

structure TOk (t : Talk) : Prop where
  kind : t.kind = 2
  value : U64 t.job.value
  len : t.got.length ≤ 201
  short : t.over = false → t.got.length ≤ 200

theorem tailP_ok {F : Fab} {t : Talk} (h1 : t.kind = 2) (h2 : U64 t.job.value) (h3 : t.got.length ≤ 201) : TOk (tailP F t).2 := by
  unfold tailP
  split
  · exact ⟨h1, h2, h3, fun e => by cases e⟩
  · rename_i hc
    split
    · exact ⟨h1, h2, h3, fun _ => by show t.got.length ≤ 200; omega⟩
    · split
      · exact ⟨h1, h2, h3, fun e => by cases e⟩
      · exact ⟨h1, h2, h3, fun _ => by show t.got.length ≤ 200; omega⟩

theorem turn_ok {F : Fab} {t : Talk} (h : TOk t) : TOk (turn F t).2 := by
  unfold turn
  split
  · exact h
  · rename_i hc
    have ho : t.over = false := by cases hh : t.over with | false => rfl | true => exact absurd (.inl hh) hc
    have hl := h.short ho
    refine tailP_ok ?_ ?_ ?_
    · cases (F.take t.client).1 <;> exact h.kind
    · cases (F.take t.client).1 <;> exact h.value
    · cases (F.take t.client).1 with
      | none => exact h.len
      | some d => show (t.got ++ [d]).length ≤ 201; simp; omega

theorem Fine.tail {F : Fab} (h : Fine F) (t : Talk) : Fine (tailP F t).1 := by
  unfold tailP
  split
  · exact h
  · split
    · exact h
    · split
      · exact h.post _ _
      · exact h.post _ _

theorem Fine.turn {F : Fab} (h : Fine F) (t : Talk) : Fine (turn F t).1 := by
  unfold Go.Proofs.YteaknokogenndaaGreat.turn
  split
  · exact h
  · exact (h.take _).tail _

theorem tailP_client {F : Fab} {t : Talk} : (tailP F t).2.client = t.client := by
  unfold tailP
  split
  · rfl
  · split
    · rfl
    · split <;> rfl

theorem turn_client {F : Fab} {t : Talk} : (turn F t).2.client = t.client := by
  unfold turn
  split
  · rfl
  · rw [tailP_client]
    cases (F.take t.client).1 <;> rfl

theorem Fine.happens {cs : List Int} {n : Nat} : ∀ (es : List Event) {F : Fab}, Fine F → Fine (happens F cs n es)
  | [], F, h => h
  | e :: es, F, h => by
    unfold Go.Proofs.YteaknokogenndaaGreat.happens
    refine Fine.happens es ?_
    split
    · exact h.happen cs e
    · exact h

/-! ### Memory -/

structure TX where
  t : Talk
  ga : Option Addr
  gc : Nat

def trows (ts : List TX) : List (List Value) := ts.map fun x => x.t.cells x.ga x.gc
theorem trows_len (ts : List TX) : ∀ r ∈ trows ts, r.length = 12 := by
  intro r hr
  simp only [trows, List.mem_map] at hr
  obtain ⟨x, _, rfl⟩ := hr
  rfl
theorem trows_get {ts : List TX} {i : Nat} {x : TX} (h : ts[i]? = some x) : (trows ts)[i]? = some (x.t.cells x.ga x.gc) := by simp [trows, h]
theorem trows_single (ts : List TX) : ∀ u ∈ (trows ts).flatten, single u = true := by
  intro u hu
  obtain ⟨r, hr, hur⟩ := List.mem_flatten.1 hu
  simp only [trows, List.mem_map] at hr
  obtain ⟨x, _, rfl⟩ := hr
  exact Talk.single _ _ _ u hur

structure TXAt (A : Nat → Prop) (u : World) (x : TX) : Prop where
  got : GotAt A u x.ga x.t.got
  cap : x.t.got.length ≤ x.gc
  ok : TOk x.t

theorem TXAt.keep {A A' : Nat → Prop} {w w' : World} {x : TX} (h : TXAt A w x) (hk : Keep A w w') (hM : ∀ k, k < w.heap.size → A' k → A k) : TXAt A' w' x := ⟨h.got.keep hk hM, h.cap, h.ok⟩

/-- Data that only are read. -/
def Dat (A : Nat → Prop) (u : World) (a : Option Addr) (xs : List Value) : Prop := Rd u a xs ∧ (xs = [] ∨ Off A a)
theorem Dat.keep {A A' : Nat → Prop} {w w' : World} {a : Option Addr} {xs : List Value} (h : Dat A w a xs) (hk : Keep A w w') (hM : ∀ k, k < w.heap.size → A' k → A k) : Dat A' w' a xs := ⟨h.1.keep hk h.2, Off.keep h.1 h.2 hM⟩

/-- What Drive keeps. -/
structure DW (A : Nat → Prop) (χ : Nat → Tag) (w : World) (fb : Nat) (la : Option Addr) (lc : Nat) (ds : List (Option Addr × List Value)) (u : World) (B : Nat → Prop) (ξ : Nat → Tag) (X : FabX) (ts : List TX) : Prop where
  tw : TW A χ w fb (isB la) u B ξ X
  own : Owns u TTa 12 la ts.length lc (trows ts).flatten
  tx : ∀ x ∈ ts, TXAt (fun k => B k ∨ isB la k) u x
  dat : ∀ d ∈ ds, Dat (fun k => B k ∨ isB la k) u d.1 d.2
  fine : Fine X.pure

theorem DW.new {A : Nat → Prop} {χ : Nat → Tag} {w u u' : World} {fb : Nat} {la : Option Addr} {lc : Nat} {ds : List (Option Addr × List Value)} {B : Nat → Prop} {ξ : Nat → Tag} {X : FabX} {ts : List TX} (h : DW A χ w fb la lc ds u B ξ X ts) (hn : New u u') : DW A χ w fb la lc ds u' B ξ X ts :=
  ⟨h.tw.new hn, Owns.new hn h.own, fun x hx => (h.tx x hx).keep (Keep.of_new hn) fun _ _ e => e, fun d hd => (h.dat d hd).keep (Keep.of_new hn) fun _ _ e => e, h.fine⟩

theorem DW.op {A : Nat → Prop} {χ : Nat → Tag} {w u u' : World} {fb : Nat} {la : Option Addr} {lc : Nat} {ds : List (Option Addr × List Value)} {B : Nat → Prop} {ξ : Nat → Tag} {X : FabX} {ts : List TX} (h : DW A χ w fb la lc ds u B ξ X ts) {F : Fab} {K : (Nat → Prop) → Prop} (p : FPost (fun k => B k ∨ isB la k) ξ u fb F u' K) (hF : Fine F) :
    ∃ B' ξ' X', DW A χ w fb la lc ds u' B' ξ' X' ts ∧ X'.pure = F ∧ K (fun k => B' k ∨ isB la k) := by
  obtain ⟨B', ξ', X', h3, hX3, hK3, hk3, hM3, hL3⟩ := h.tw.op p
  refine ⟨B', ξ', X', ⟨h3, ?_, fun x hx => (h.tx x hx).keep hk3 hM3, fun d hd => (h.dat d hd).keep hk3 hM3, by rw [hX3]; exact hF⟩, hX3, hK3⟩
  refine ⟨h.own.1, ?_⟩
  rcases h.own.2 with hn | ⟨g, cur, hg, hb, rest⟩
  · exact .inl hn
  · exact .inr ⟨g, cur, hg, (hL3 g ⟨0, hg⟩).trans hb, rest⟩

/-- A row of a slice is replaced. -/
theorem Owns.putRow {w : World} {e sz n cap g : Nat} {rows : List (List Value)} (h : Owns w e sz (some ⟨g, 0, none⟩) n cap rows.flatten) (hs : ∀ r ∈ rows, r.length = sz) (hn : rows.length = n) {i : Nat} (hi : i < n) {vs : List Value} (hv : vs.length = sz) (h1 : ∀ v ∈ vs, single v = true) :
    wrAt w ⟨g, i * sz, none⟩ 0 vs ∧ Owns (puts w ⟨g, i * sz, none⟩ 0 vs) e sz (some ⟨g, 0, none⟩) n cap (rows.set i vs).flatten := by
  subst hn
  rcases h.2 with ⟨he, _⟩ | ⟨g', cur, he, hb, hc, hm, hl, ht⟩
  · cases he
  · simp at he
    subst he
    have hfl := flat_length hs
    have hin : i * sz + sz ≤ rows.length * sz := by rw [← Nat.succ_mul]; exact Nat.mul_le_mul_right _ hi
    have hnc : rows.length * sz ≤ cap * sz := Nat.mul_le_mul_right _ hc
    refine ⟨wrAt_blk hb (by omega) h1, ?_⟩
    have hp := hb.puts (o := i * sz) (i := 0) (vs := vs)
    refine ⟨?_, .inr ⟨g, _, rfl, hp, hc, hm, ?_, ?_⟩⟩
    · rw [flat_length (sz := sz), List.length_set]
      intro r hr
      rcases List.mem_or_eq_of_mem_set hr with h3 | rfl
      · exact hs r h3
      · exact hv
    · rw [splice_eq (by omega)]
      simp
      omega
    · rw [← flat_splice hs (by omega) hv, Nat.add_zero, splice_eq (by omega), splice_eq (by omega), ← ht]
      apply List.ext_getElem?
      intro q
      simp only [List.getElem?_take, List.getElem?_append, List.length_take, List.length_append, List.getElem?_drop]
      repeat' split
      all_goals first | rfl | omega | (congr 1; omega) | skip
      all_goals first | rfl | (exfalso; omega) | skip
end Go.Proofs.YteaknokogenndaaGreat
