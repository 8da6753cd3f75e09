/- Arguments that came in, opened: slices of structs. -/
import Derived.Test.YtppcleiekdbndaaGreatPostLaw
import Derived.Deep.Slices
set_option linter.unusedVariables false
namespace Go.Proofs.YtppcleiekdbndaaGreat
open Go.ChangeShapes Go.WideShapes Go.ChangeAt Go.RowKit Go.Eng

theorem flat_inv {sz : Nat} (h0 : 0 < sz) : ∀ {rows : List (List Value)} {j : Nat} {u : Value}, (∀ r ∈ rows, r.length = sz) → rows.flatten[j]? = some u → ∃ r, rows[j / sz]? = some r ∧ r[j % sz]? = some u
  | [], j, u, _, h => by simp at h
  | r :: rows, j, u, hr, h => by
    have hl := hr r List.mem_cons_self
    rw [List.flatten_cons, List.getElem?_append] at h
    by_cases hj : j < sz
    · rw [if_pos (by omega)] at h
      exact ⟨r, by rw [Nat.div_eq_of_lt hj]; rfl, by rw [Nat.mod_eq_of_lt hj]; exact h⟩
    · rw [if_neg (by omega), hl] at h
      obtain ⟨r', h1, h2⟩ := flat_inv h0 (fun r hr' => hr r (List.mem_cons_of_mem _ hr')) h
      have e1 : j / sz = (j - sz) / sz + 1 := by
        rw [Nat.div_eq_sub_div h0 (by omega)]
      have e2 : j % sz = (j - sz) % sz := by rw [Nat.mod_eq_sub_mod (by omega)]
      exact ⟨r', by rw [e1]; simpa using h1, by rw [e2]; exact h2⟩

theorem spot_none {w : World} {a : Addr} {v : Value} (h : w.cell? a = some v) : a.spot = none := by
  cases hs : a.spot with
  | none => rfl
  | some s =>
    exfalso
    unfold World.cell? at h
    simp only [hs, Option.isSome_some, if_true] at h
    split at h <;> simp_all

/-- A slice of structs. -/
theorem open_rowsC {H : Type} {enc : TypeId × Value → H} {P : Program} {W : World} {k fuel : Nat} {t e : TypeId} {cs : List Value} {x : DataW H × List MemPlace} {held : Bool} (ht : P.underlying t = some (.slice e)) (hc : P.cellsOf e = k) (hk : 0 < k)
    (hf : DataW.trod enc P W 0 (fun _ => true) held fuel t cs = some x) : ∃ a cap rows, cs = [.slice a (List.length rows) cap] ∧ rows.length ≤ cap ∧ Rd W a rows.flatten ∧ ∀ r ∈ rows, r.length = k ∧ ∃ fuel x, DataW.trod enc P W 0 (fun _ => true) held fuel e r = some x := by
  rcases Deep.open_slice ht hf with ⟨h1, _⟩ | ⟨ad, len, cap, m, n, D, Pl, h1, _, h3, _, h5, _, h7⟩
  · exact ⟨none, 0, [], h1, Nat.le_refl _, .inl rfl, fun x hx => by cases hx⟩
  · subst h1
    have hm : len ≤ m := by rw [h5]; simp; omega
    obtain ⟨f, hf'⟩ := Deep.choose_lt (α := List Value) (p := fun i cs => W.cells? 0 (ad.add (i * k)) k = some cs ∧ DataW.trod enc P W 0 (fun _ => true) held n e cs = some (D i, Pl i)) (n := m) (fun i hi => by
      obtain ⟨cs, g1, g2⟩ := h7 i hi
      rw [hc] at g1
      exact ⟨cs, g1, g2⟩)
    have hrow : ∀ (i : Nat) (r : List Value), ((List.range len).map f)[i]? = some r → i < len ∧ r = f i := by
      intro i r hr
      have hi := lt_of_get hr
      simp at hi
      simp [hi] at hr
      exact ⟨hi, hr.symm⟩
    have hlens : ∀ r ∈ (List.range len).map f, r.length = k := by
      intro r hr
      obtain ⟨i, hi⟩ := List.mem_iff_getElem?.1 hr
      obtain ⟨hi, rfl⟩ := hrow i r hi
      exact (World.cells?_some (hf' i (by omega)).1).2.1
    refine ⟨some ad, cap, (List.range len).map f, by simp, by simpa using h3, ?_, fun r hr => ⟨hlens r hr, ?_⟩⟩
    · by_cases h0 : len = 0
      · subst h0; exact .inl rfl
      · have hcell : ∀ (i q : Nat) (u : Value), i < len → (f i)[q]? = some u → q < k → W.cell? (ad.add (i * k + q)) = some u := by
          intro i q u hi hq hqk
          have := (World.cells?_some (hf' i (by omega)).1).2.2 q hqk
          rw [Deep.add_add] at this
          rw [this, hq]
        have hf0 := (World.cells?_some (hf' 0 (by omega)).1).2.1
        have hs : ad.spot = none := by
          have h8 := hcell 0 0 _ (by omega) (List.getElem?_eq_getElem (by omega)) hk
          have := spot_none h8
          simpa [Addr.add] using this
        refine .inr ⟨ad.block, ad.off, by cases ad; simp_all, fun j u hu => ?_⟩
        obtain ⟨r, g1, g2⟩ := flat_inv hk hlens hu
        obtain ⟨hi, rfl⟩ := hrow _ _ g1
        have h8 := hcell (j / k) (j % k) u hi g2 (Nat.mod_lt _ hk)
        rw [Nat.mul_comm, Nat.div_add_mod] at h8
        rw [← h8]
        unfold Addr.add
        split
        · rename_i h0; subst h0; cases ad; simp_all
        · cases ad; simp_all
    · obtain ⟨i, hi⟩ := List.mem_iff_getElem?.1 hr
      obtain ⟨hi, rfl⟩ := hrow i r hi
      exact ⟨n, _, (hf' i (by omega)).2⟩

theorem open_rows {H : Type} {enc : TypeId × Value → H} {P : Program} {W : World} {r : Reach} {b0 k : Nat} {t e : TypeId} {v : Value} {d : DataW H} {ps : List MemPlace} {held : Bool} (ht : P.underlying t = some (.slice e)) (hc : P.cellsOf e = k) (hk : 0 < k) (hval : Value.okWide P W r b0 t v)
    (hd : DataW.Trod enc P W 0 (fun _ => true) held t v d ps) : ∃ a cap rows, v = .slice a (List.length rows) cap ∧ Rd W a rows.flatten ∧ ∀ r ∈ rows, r.length = k ∧ ∃ fuel x, DataW.trod enc P W 0 (fun _ => true) held fuel e r = some x := by
  obtain ⟨a, len, cap, rfl⟩ := okWide_slice ht hval
  obtain ⟨fuel, hf⟩ := hd
  obtain ⟨a', cap', rows, h1, _, h2, h3⟩ := open_rowsC ht hc hk hf
  have h1' : [Value.slice a len cap] = [.slice a' rows.length cap'] := h1
  simp at h1'
  obtain ⟨rfl, rfl, rfl⟩ := h1'
  exact ⟨_, _, _, rfl, h2, h3⟩

/-- A slice of plain integers. -/
theorem ints_of {H : Type} {enc : TypeId × Value → H} {P : Program} {W : World} {e : TypeId} {held : Bool} (he : P.underlying e = some (.int .i64)) : ∀ rows : List (List Value), (∀ r ∈ rows, ∃ fuel x, DataW.trod enc P W 0 (fun _ => true) held fuel e r = some x) → ∃ xs : List Int, rows.length = xs.length ∧ rows.flatten = is xs ∧ ∀ x ∈ xs, I64 x
  | [], _ => ⟨[], rfl, rfl, fun x hx => by cases hx⟩
  | r :: rows, h => by
    obtain ⟨fuel, x, hx⟩ := h r List.mem_cons_self
    obtain ⟨n, rfl, _, w⟩ := DataW.trod_int he hx
    obtain ⟨xs, g1, g2, g3⟩ := ints_of he rows fun r hr => h r (List.mem_cons_of_mem _ hr)
    refine ⟨n :: xs, by simp [g1], by simp [is, g2], fun x hx => ?_⟩
    rcases List.mem_cons.1 hx with rfl | hx
    · exact i64_of w
    · exact g3 x hx

theorem open_listC {H : Type} {enc : TypeId × Value → H} {P : Program} {W : World} {fuel : Nat} {t e : TypeId} {cs : List Value} {x : DataW H × List MemPlace} {held : Bool} (ht : P.underlying t = some (.slice e)) (he : P.underlying e = some (.int .i64)) (hc : P.cellsOf e = 1)
    (hf : DataW.trod enc P W 0 (fun _ => true) held fuel t cs = some x) : ∃ a cap xs, cs = [.slice a (List.length xs) cap] ∧ xs.length ≤ cap ∧ Rd W a (is xs) ∧ ∀ x ∈ xs, I64 x := by
  obtain ⟨a, cap, rows, h1, h2, h3, h4⟩ := open_rowsC ht hc (by omega) hf
  obtain ⟨xs, g1, g2, g3⟩ := ints_of he rows fun r hr => (h4 r hr).2
  exact ⟨a, cap, xs, by rw [h1, g1], by omega, by rw [← g2]; exact h3, g3⟩

theorem open_list {H : Type} {enc : TypeId × Value → H} {P : Program} {W : World} {r : Reach} {b0 : Nat} {t e : TypeId} {v : Value} {d : DataW H} {ps : List MemPlace} {held : Bool} (ht : P.underlying t = some (.slice e)) (he : P.underlying e = some (.int .i64)) (hc : P.cellsOf e = 1) (hval : Value.okWide P W r b0 t v)
    (hd : DataW.Trod enc P W 0 (fun _ => true) held t v d ps) : ∃ a cap xs, v = .slice a (List.length xs) cap ∧ Rd W a (is xs) ∧ ∀ x ∈ xs, I64 x := by
  obtain ⟨a, cap, rows, rfl, h1, h2⟩ := open_rows ht hc (by omega) hval hd
  have hint : ∀ r ∈ rows, ∃ n, r = [.int .i64 n] ∧ I64 n := by
    intro r hr
    obtain ⟨_, fuel, x, hx⟩ := h2 r hr
    obtain ⟨n, e, _, w⟩ := DataW.trod_int he hx
    exact ⟨n, e, i64_of w⟩
  clear h2
  have key : ∀ rows : List (List Value), (∀ r ∈ rows, ∃ n, r = [Value.int .i64 n] ∧ I64 n) → ∃ xs : List Int, rows.length = xs.length ∧ rows.flatten = is xs ∧ ∀ x ∈ xs, I64 x := by
    intro rows
    induction rows with
    | nil => intro _; exact ⟨[], rfl, rfl, fun x hx => by cases hx⟩
    | cons r rows ih =>
      intro h
      obtain ⟨n, rfl, hn⟩ := h r List.mem_cons_self
      obtain ⟨xs, g1, g2, g3⟩ := ih fun r hr => h r (List.mem_cons_of_mem _ hr)
      refine ⟨n :: xs, by simp [g1], by simp [is, g2], fun x hx => ?_⟩
      rcases List.mem_cons.1 hx with rfl | hx
      · exact hn
      · exact g3 x hx
  obtain ⟨xs, g1, g2, g3⟩ := key rows hint
  exact ⟨a, cap, xs, by rw [g1], by rw [← g2]; exact h1, g3⟩

/-- Rows of structs, each of which is read. -/
theorem rows_of {α : Type} {cells : α → List Value} {Ok : α → Prop} : ∀ {rows : List (List Value)}, (∀ r ∈ rows, ∃ x : α, r = cells x ∧ Ok x) → ∃ xs : List α, rows = xs.map cells ∧ ∀ x ∈ xs, Ok x
  | [], _ => ⟨[], rfl, fun x hx => by cases hx⟩
  | r :: rows, h => by
    obtain ⟨x, rfl, hx⟩ := h r List.mem_cons_self
    obtain ⟨xs, g1, g2⟩ := rows_of fun r hr => h r (List.mem_cons_of_mem _ hr)
    refine ⟨x :: xs, by rw [g1]; rfl, fun y hy => ?_⟩
    rcases List.mem_cons.1 hy with rfl | hy
    · exact hx
    · exact g2 y hy

/-- An integer field of a struct that is read. -/
theorem field_int {H : Type} {enc : TypeId × Value → H} {P : Program} {W : World} {held : Bool} {n : Nat} {f : TypeId} {off : Nat} {cs : List Value} {k : IntKind} {x : DataW H × List MemPlace} (he : P.underlying f = some (.int k)) (hc : P.cellsOf f = 1)
    (h : DataW.trod enc P W 0 (fun _ => true) held n f ((cs.drop off).take (P.cellsOf f)) = some x) : ∃ m, cs[off]? = some (.int k m) ∧ (Lit.int k m).wf = true := by
  obtain ⟨m, e, _, w⟩ := DataW.trod_int he h
  rw [hc] at e
  refine ⟨m, ?_, w⟩
  have := congrArg (fun l : List Value => l[0]?) e
  simpa using this
end Go.Proofs.YtppcleiekdbndaaGreat
