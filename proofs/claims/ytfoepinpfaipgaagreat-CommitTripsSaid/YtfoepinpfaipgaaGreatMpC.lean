/- Regions in any order: sets of numbers, what waits for what, the values of the slots. Regions in any order: loads that are looked at again, new objects that come late. Regions in any order: the program behind M. Regions in any order: M goes ahead, or with the program. Regions in any order: the whole region. Regions in any order: the semantics is sound. Closed runs: what the kernel is asked. -/
import Derived.Test.YtfoepinpfaipgaaGreatMpB
/-! ## Mp13 -/
set_option linter.unusedVariables false
namespace Go.Mx
open Go.Eng

theorem has_eq (m i : Nat) : has m i = m.testBit i := by
  rw [Nat.testBit_eq_decide_div_mod_eq]
  unfold has
  have h1 : Nat.land (Nat.shiftRight m i) 1 = m / 2 ^ i % 2 := by
    show (m >>> i) &&& 1 = _
    rw [Nat.and_one_is_mod, Nat.shiftRight_eq_div_pow]
  rw [h1]
  by_cases h : m / 2 ^ i % 2 = 1
  · rw [h]; rfl
  · rw [decide_eq_false h]
    cases hb : Nat.beq (m / 2 ^ i % 2) 1 with
    | true => exact absurd (Nat.eq_of_beq_eq_true hb) h
    | false => rfl

theorem has_bit (i j : Nat) : has (Nat.shiftLeft 1 i) j = decide (j = i) := by
  rw [has_eq]
  show (1 <<< i).testBit j = _
  rw [Nat.testBit_shiftLeft]
  by_cases h : j = i
  · subst h; simp
  · rw [decide_eq_false h]
    by_cases hle : i ≤ j
    · have : j - i ≠ 0 := by omega
      have h2 : Nat.testBit 1 (j - i) = false := by
        rw [Nat.testBit_eq_decide_div_mod_eq]
        have : 1 / 2 ^ (j - i) = 0 := Nat.div_eq_of_lt (Nat.one_lt_two_pow this)
        simp [this]
      simp [h2]
    · simp [hle]

theorem has_or (a b j : Nat) : has (Nat.lor a b) j = (has a j || has b j) := by
  rw [has_eq, has_eq, has_eq]
  exact Nat.testBit_or a b j

theorem has_zero (j : Nat) : has 0 j = false := by rw [has_eq]; exact Nat.zero_testBit j

theorem has_add (m i j : Nat) : has (add m i) j = (has m j || decide (j = i)) := by unfold add; rw [has_or, has_bit]

theorem inL_iff : ∀ (l : List Nat) (i : Nat), inL l i = true ↔ i ∈ l
  | [], i => by simp [inL]
  | x :: l, i => by
    simp only [inL, Bool.or_eq_true, List.mem_cons, inL_iff l i]
    refine or_congr ⟨fun h => (Nat.eq_of_beq_eq_true h).symm, fun h => ?_⟩ Iff.rfl
    subst h
    exact Nat.beq_refl _

/-- Operation i waits for j, perhaps by others. -/
inductive Anc (all : List Oper) : Nat → Nat → Prop
  | base {i j : Nat} : j ∈ depsI all i → Anc all i j
  | step {i k j : Nat} : k ∈ depsI all i → Anc all k j → Anc all i j

theorem Anc.closed {all : List Oper} {R : Nat → Prop} (h : ∀ i, R i → ∀ j ∈ depsI all i, R j) {i j : Nat} (ha : Anc all i j) : R i → R j := by
  induction ha with
  | base hj => exact fun hi => h _ hi _ hj
  | step hk _ ih => exact fun hi => ih (h _ hi _ hk)

theorem Anc.ready {all : List Oper} {R : Nat → Prop} (h : ∀ i, R i → ∀ j ∈ depsI all i, R j) {i j : Nat} (hi : ∀ k ∈ depsI all i, R k) (ha : Anc all i j) : R j := by
  cases ha with
  | base hj => exact hi _ hj
  | step hk h2 => exact h2.closed h (hi _ hk)

/-- A table tells only what is. -/
def AncT (all : List Oper) (A : List (Nat × Nat)) : Prop := ∀ i j, has (ancsI A i) j = true → Anc all i j

theorem ancOf_has {A : List (Nat × Nat)} : ∀ {l : List Nat} {j : Nat}, has (ancOf A l) j = true → ∃ k ∈ l, j = k ∨ has (ancsI A k) j = true
  | [], j, h => by rw [show ancOf A [] = 0 from rfl, has_zero] at h; cases h
  | k :: l, j, h => by
    rw [show ancOf A (k :: l) = Nat.lor (Nat.lor (Nat.shiftLeft 1 k) (ancsI A k)) (ancOf A l) from rfl, has_or, has_or, has_bit] at h
    simp only [Bool.or_eq_true, decide_eq_true_eq] at h
    rcases h with (h | h) | h
    · exact ⟨k, by simp, .inl h⟩
    · exact ⟨k, by simp, .inr h⟩
    · obtain ⟨k', hk, h'⟩ := ancOf_has h
      exact ⟨k', by simp [hk], h'⟩

theorem ancs_ok {all : List Oper} : ∀ (l : List Nat) (A : List (Nat × Nat)), AncT all A → AncT all (ancs all l A)
  | [], A, h => h
  | i :: l, A, h => by
    unfold ancs
    rw [fNat_eq]
    refine ancs_ok l _ fun k j hk => ?_
    rw [show ancsI ((i, ancOf A (depsI all i)) :: A) k = @Bool.rec (fun _ => Nat) (ancsI A k) (ancOf A (depsI all i)) (Nat.beq i k) from rfl] at hk
    cases hb : Nat.beq i k with
    | true =>
      have hb := Nat.eq_of_beq_eq_true hb
      subst hb
      rw [Nat.beq_refl] at hk
      obtain ⟨k', hk', h'⟩ := ancOf_has hk
      rcases h' with rfl | h'
      · exact .base hk'
      · exact .step hk' (h _ _ h')
    | false =>
      rw [hb] at hk
      exact h _ _ hk

theorem ancs_nil {all : List Oper} (l : List Nat) : AncT all (ancs all l []) := ancs_ok l [] fun i j h => by
  rw [show ancsI [] i = 0 from rfl, has_zero] at h
  cases h

/-! ### The slots -/

/-- The latest value of a slot, of operations of a set. -/
noncomputable def cur (all : List Oper) (val : Nat → V) (base : Nat → V) (R : Nat → Bool) : List Nat → Nat → V
  | [], t => base t
  | i :: L, t => if R i = true ∧ dstOf all i = some t then val i else cur all val base R L t

noncomputable abbrev curA (all : List Oper) (val : Nat → V) (base : Nat → V) : List Nat → Nat → V := cur all val base fun _ => true

section
variable {all : List Oper} {val : Nat → V} {base : Nat → V} {R : Nat → Bool}

/-- Nothing of the set writes the slot. -/
theorem cur_skip {t : Nat} : ∀ {L1 L2 : List Nat}, (∀ j ∈ L1, R j = true → dstOf all j ≠ some t) → cur all val base R (L1 ++ L2) t = cur all val base R L2 t
  | [], L2, _ => rfl
  | i :: L1, L2, h => by
    rw [List.cons_append]
    conv => lhs; unfold cur
    rw [if_neg fun hh => h i (by simp) hh.1 hh.2]
    exact cur_skip (L1 := L1) fun j hj => h j (List.mem_cons_of_mem _ hj)

theorem cur_none {t : Nat} {L : List Nat} (h : ∀ j ∈ L, R j = true → dstOf all j ≠ some t) : cur all val base R L t = base t := by
  have := cur_skip (val := val) (base := base) (L1 := L) (L2 := []) h
  rw [List.append_nil] at this
  exact this

theorem cur_hit {t i : Nat} {L2 : List Nat} (hi : R i = true) (ht : dstOf all i = some t) : cur all val base R (i :: L2) t = val i := by
  unfold cur
  rw [if_pos ⟨hi, ht⟩]

theorem cur_miss {t i : Nat} {L2 : List Nat} (h : R i = true → dstOf all i ≠ some t) : cur all val base R (i :: L2) t = cur all val base R L2 t := by
  conv => lhs; unfold cur
  rw [if_neg fun hh => h hh.1 hh.2]

theorem cur_congr {val' : Nat → V} {R' : Nat → Bool} {t : Nat} : ∀ {L : List Nat}, (∀ j ∈ L, R j = R' j) → (∀ j ∈ L, val j = val' j) → cur all val base R L t = cur all val' base R' L t
  | [], _, _ => rfl
  | i :: L, h, h' => by
    unfold cur
    rw [h i (by simp), h' i (by simp), cur_congr (fun j hj => h j (by simp [hj])) fun j hj => h' j (by simp [hj])]

/-- Either some operation of the list is the latest that writes the slot, or none does. -/
theorem last_or (all : List Oper) (R : Nat → Bool) (t : Nat) : ∀ (L : List Nat), (∀ j ∈ L, R j = true → dstOf all j ≠ some t) ∨ ∃ L1 i L2, L = L1 ++ i :: L2 ∧ R i = true ∧ dstOf all i = some t ∧ ∀ j ∈ L1, R j = true → dstOf all j ≠ some t
  | [] => .inl fun j hj => by cases hj
  | i :: L => by
    by_cases h : R i = true ∧ dstOf all i = some t
    · exact .inr ⟨[], i, L, rfl, h.1, h.2, fun j hj => by cases hj⟩
    · rcases last_or all R t L with h1 | ⟨L1, k, L2, rfl, h2, h3, h4⟩
      · refine .inl fun j hj hR hd => ?_
        rcases List.mem_cons.1 hj with rfl | hj
        · exact h ⟨hR, hd⟩
        · exact h1 j hj hR hd
      · refine .inr ⟨i :: L1, k, L2, rfl, h2, h3, fun j hj hR hd => ?_⟩
        rcases List.mem_cons.1 hj with rfl | hj
        · exact h ⟨hR, hd⟩
        · exact h4 j hj hR hd

/-- M's list: each operation once, behind all that it waits for. -/
def LOk (all : List Oper) (L : List Nat) : Prop := ∀ L1 i L2, L = L1 ++ i :: L2 → i ∉ L2 ∧ ∀ j ∈ depsI all i, j ∈ L2

theorem LOk.tail {i : Nat} {L : List Nat} (h : LOk all (i :: L)) : LOk all L := fun L1 k L2 e => h (i :: L1) k L2 (by rw [e]; rfl)
theorem LOk.suffix {L1 L2 : List Nat} (h : LOk all (L1 ++ L2)) : LOk all L2 := fun M1 k M2 e => h (L1 ++ M1) k M2 (by rw [e, List.append_assoc])
theorem LOk.cons {i : Nat} {L : List Nat} (h : LOk all L) (hi : i ∉ L) (hd : ∀ j ∈ depsI all i, j ∈ L) : LOk all (i :: L) := by
  intro L1 k L2 e
  cases L1 with
  | nil =>
    simp only [List.nil_append, List.cons.injEq] at e
    obtain ⟨rfl, rfl⟩ := e
    exact ⟨hi, hd⟩
  | cons x L1 =>
    simp only [List.cons_append, List.cons.injEq] at e
    exact h L1 k L2 e.2

theorem LOk.closed {L : List Nat} (h : LOk all L) : ∀ i, i ∈ L → ∀ j ∈ depsI all i, j ∈ L := by
  intro i hi j hj
  obtain ⟨L1, L2, rfl⟩ := List.append_of_mem hi
  have := (h L1 i L2 rfl).2 j hj
  simp [this]

/-- What an operation waits for lies before it. -/
theorem LOk.anc {L1 L2 : List Nat} {i j : Nat} (h : LOk all (L1 ++ i :: L2)) (ha : Anc all i j) : j ∈ L2 := by
  have h2 : LOk all L2 := (h.suffix (L1 := L1)).tail
  exact ha.ready (R := fun k => k ∈ L2) h2.closed (h L1 i L2 rfl).2

theorem LOk.self {L1 L2 : List Nat} {i : Nat} (h : LOk all (L1 ++ i :: L2)) : i ∉ L2 ∧ i ∉ L1 := by
  refine ⟨(h L1 i L2 rfl).1, fun hi => ?_⟩
  obtain ⟨M1, M2, rfl⟩ := List.append_of_mem hi
  have := (h M1 i (M2 ++ i :: L2) (by simp)).1
  simp at this

/-- Two that touch a slot are ordered. -/
def TmpOk (all : List Oper) : Prop := ∀ j t i, j < all.length → dstOf all j = some t → i < all.length → i ≠ j → t ∈ readsI all i ∨ dstOf all i = some t → Anc all i j ∨ Anc all j i

theorem okTmp_sound {A : List (Nat × Nat)} (hA : AncT all A) (h : okTmp all A = true) : TmpOk all := by
  intro j t i hj hd hi hne hr
  unfold okTmp at h
  rw [List.all_eq_true] at h
  have h1 := h j (List.mem_range.2 hj)
  rw [hd] at h1
  simp only [List.all_eq_true] at h1
  have h2 := h1 i (List.mem_range.2 hi)
  simp only [Bool.or_eq_true, Bool.not_eq_true'] at h2
  rcases h2 with ((h2 | h2) | h2) | h2
  · exact absurd (Nat.eq_of_beq_eq_true h2) hne
  · exfalso
    simp only [Bool.or_eq_false_iff] at h2
    rcases hr with hr | hr
    · rw [(inL_iff _ _).2 hr] at h2; cases h2.1
    · rw [hr] at h2
      simp at h2
  · exact .inl (hA _ _ h2)
  · exact .inr (hA _ _ h2)

/-- A slot that an operation reads is as it was in M when M did it. -/
theorem cur_read {L1 L2 : List Nat} {i t : Nat} (hT : TmpOk all) (hL : LOk all (L1 ++ i :: L2)) (hlt : ∀ j ∈ L1 ++ i :: L2, j < all.length) (hR : ∀ k, R k = true → ∀ j ∈ depsI all k, R j = true) (hi : R i = false) (hrd : ∀ k ∈ depsI all i, R k = true)
    (ht : t ∈ readsI all i) : cur all val base R (L1 ++ i :: L2) t = curA all val base L2 t := by
  have hself := hL.self
  have h1 : ∀ j ∈ L1, R j = true → dstOf all j ≠ some t := by
    intro j hj hRj hd
    rcases hT j t i (hlt j (by simp [hj])) hd (hlt i (by simp)) (fun e => hself.2 (e ▸ hj)) (.inl ht) with ha | ha
    · have := hL.anc ha
      obtain ⟨M1, M2, rfl⟩ := List.append_of_mem hj
      have h3 : LOk all (M1 ++ j :: (M2 ++ i :: L2)) := by simpa using hL
      exact h3.self.1 (by simp [this])
    · have := ha.closed (R := fun k => R k = true) hR hRj
      rw [hi] at this; cases this
  rw [cur_skip h1, cur_miss fun h => by rw [hi] at h; cases h]
  rcases last_or all (fun _ => true) t L2 with h2 | ⟨M1, k, M2, rfl, _, hd, h3⟩
  · rw [cur_none fun j hj _ => h2 j hj rfl, curA, cur_none h2]
  · have hk : R k = true := by
      rcases hT k t i (hlt k (by simp)) hd (hlt i (by simp)) (fun e => hself.1 (by simp [e])) (.inl ht) with ha | ha
      · exact ha.ready (R := fun k => R k = true) hR hrd
      · have h4 : LOk all ((L1 ++ i :: M1) ++ k :: M2) := by simpa using hL
        have := h4.anc ha
        exact absurd (show i ∈ M1 ++ k :: M2 by simp [this]) hself.1
    rw [curA, cur_skip fun j hj _ => h3 j hj rfl, cur_skip h3, cur_hit hk hd, cur_hit rfl hd]

/-- One more operation of the set. -/
theorem cur_one {L1 L2 : List Nat} {i t : Nat} (hT : TmpOk all) (hL : LOk all (L1 ++ i :: L2)) (hlt : ∀ j ∈ L1 ++ i :: L2, j < all.length) (hR : ∀ k, R k = true → ∀ j ∈ depsI all k, R j = true) (hi : R i = false) :
    cur all val base (fun k => R k || k == i) (L1 ++ i :: L2) t = if dstOf all i = some t then val i else cur all val base R (L1 ++ i :: L2) t := by
  have hself := hL.self
  have e1 : ∀ j ∈ L1, (R j || j == i) = R j := fun j hj => by
    have : j ≠ i := fun e => hself.2 (e ▸ hj)
    simp [this]
  have e2 : ∀ j ∈ L2, (R j || j == i) = R j := fun j hj => by
    have : j ≠ i := fun e => hself.1 (e ▸ hj)
    simp [this]
  by_cases hd : dstOf all i = some t
  · rw [if_pos hd]
    have h1 : ∀ j ∈ L1, (R j || j == i) = true → dstOf all j ≠ some t := by
      intro j hj hRj hd'
      rw [e1 j hj] at hRj
      rcases hT i t j (hlt i (by simp)) hd (hlt j (by simp [hj])) (fun e => hself.2 (e ▸ hj)) (.inr hd') with ha | ha
      · have := ha.closed (R := fun k => R k = true) hR hRj
        rw [hi] at this; cases this
      · have := hL.anc ha
        obtain ⟨M1, M2, rfl⟩ := List.append_of_mem hj
        have h3 : LOk all (M1 ++ j :: (M2 ++ i :: L2)) := by simpa using hL
        exact h3.self.1 (by simp [this])
    rw [cur_skip (R := fun k => R k || k == i) h1, cur_hit (R := fun k => R k || k == i) (by simp) hd]
  · rw [if_neg hd]
    have key : ∀ M : List Nat, (∀ j ∈ M, (R j || j == i) = R j) → ∀ N : List Nat, cur all val base (fun k => R k || k == i) N t = cur all val base R N t → cur all val base (fun k => R k || k == i) (M ++ N) t = cur all val base R (M ++ N) t := by
      intro M hM N hN
      induction M with
      | nil => exact hN
      | cons x M ih =>
        rw [List.cons_append]
        unfold cur
        rw [hM x (by simp), ih fun j hj => hM j (by simp [hj])]
    refine key L1 e1 _ ?_
    rw [cur_miss fun _ => hd, cur_miss fun _ => hd]
    exact cur_congr e2 fun _ _ => rfl
end
end Go.Mx

/-! ## Mp14 -/
set_option linter.unusedVariables false
namespace Go.Mx
open Go.Eng

theorem sameC_iff {x y : C} {K : Prop} (h : sameC x y K) : x = y ∧ stC x = true ∧ K := by
  unfold sameC at h
  split at h
  · rename_i a b
    cases a <;> cases b <;> first | exact ⟨rfl, rfl, h⟩ | exact h.elim
  · obtain ⟨h1, h2⟩ := iff_t h
    obtain ⟨h3, h4⟩ := iff_t h2
    rw [eqI_eq, beq_iff_eq] at h3
    rw [Nat.eq_of_beq_eq_true h1, h3]
    exact ⟨rfl, rfl, h4⟩
  · exact ⟨rfl, rfl, h⟩
  · obtain ⟨h1, h2⟩ := iff_t h
    obtain ⟨h3, h4⟩ := iff_t h2
    rw [Nat.eq_of_beq_eq_true h1, Nat.eq_of_beq_eq_true h3]
    exact ⟨rfl, rfl, h4⟩
  · exact ⟨rfl, rfl, h⟩
  · obtain ⟨h1, h2⟩ := iff_t h
    obtain ⟨h3, h4⟩ := iff_t h2
    obtain ⟨h5, h6⟩ := iff_t h4
    obtain ⟨h7, h8⟩ := iff_t h6
    rw [Nat.eq_of_beq_eq_true h1, Nat.eq_of_beq_eq_true h3, Nat.eq_of_beq_eq_true h5, Nat.eq_of_beq_eq_true h7]
    exact ⟨rfl, rfl, h8⟩
  · obtain ⟨h1, h2⟩ := iff_t h
    obtain ⟨h3, h4⟩ := iff_t h2
    obtain ⟨h5, h6⟩ := iff_t h4
    obtain ⟨h7, h8⟩ := iff_t h6
    obtain ⟨h9, h10⟩ := iff_t h8
    rw [Nat.eq_of_beq_eq_true h1, Nat.eq_of_beq_eq_true h3, Nat.eq_of_beq_eq_true h5, Nat.eq_of_beq_eq_true h7, Nat.eq_of_beq_eq_true h9]
    exact ⟨rfl, rfl, h10⟩
  · exact h.elim

theorem sameL_iff : ∀ {l l' : List C} {K : Prop}, sameL l l' K → l = l' ∧ K
  | [], [], K, h => ⟨rfl, h⟩
  | x :: xs, y :: ys, K, h => by
    obtain ⟨h1, _, h2⟩ := sameC_iff (show sameC x y (sameL xs ys K) from h)
    obtain ⟨h3, h4⟩ := sameL_iff h2
    rw [h1, h3]
    exact ⟨rfl, h4⟩
  | [], _ :: _, _, h => h.elim
  | _ :: _, [], _, h => h.elim

theorem sameV_sound {x y : V} {K : Prop} (h : sameV x y K) : K ∧ ∀ m rv, VR m y rv → VR m x rv := by
  cases x with
  | c c =>
    obtain ⟨c', rfl, h1⟩ := onC_iff (show onC y fun c' => sameC c c' K from h)
    obtain ⟨rfl, _, h2⟩ := sameC_iff h1
    exact ⟨h2, fun m rv hv => hv⟩
  | a dp d o n =>
    obtain ⟨dp', d', o', n', rfl, h1⟩ := onA_iff (show onA y fun dp' d' o' n' => iff (Nat.beq n n') (iff (Nat.ble (Nat.add o n) (Nat.pow 4 dp)) (cellsK dp d n o fun l => cellsK dp' d' n' o' fun l' => sameL l l' K) False) False from h)
    obtain ⟨hn, h2⟩ := iff_t h1
    obtain ⟨hle, h3⟩ := iff_t h2
    have hn := beq_eq hn
    have hle : o + n ≤ 4 ^ dp := ble_le hle
    subst hn
    rw [cellsK_iff, cellsK_iff] at h3
    obtain ⟨hl, h4⟩ := sameL_iff h3
    refine ⟨h4, fun m rv hv => ?_⟩
    obtain ⟨cs, e1, e2, e3⟩ := hv
    refine ⟨cs, e1, e2, by omega, fun i u hi => ?_⟩
    have hil : i < cs.length := by
      rcases Nat.lt_or_ge i cs.length with h | h
      · exact h
      · rw [List.getElem?_eq_none h] at hi; cases hi
    have q1 := get_lcells dp d n o i (by omega)
    have q2 := get_lcells dp' d' n o' i (by omega)
    rw [hl, q2] at q1
    simp only [Option.some.injEq] at q1
    rw [← q1]
    exact e3.2 i u hi
  | t l => exact h.elim

section
variable {P : Program} {e : Nat} {env : Env e} {o : Oper} {w0 : Bs} {m : Mp} {w w' : World} {H : Hp} {renv : List Value}

def GdSkip (all : List Oper) (e : Nat) (env : Env e) (o : Oper) : Prop := ∃ j want d, o.guard = some (j, want) ∧ dstOf all j = some d ∧ d < e ∧ (lget (dpN e) env d = .c .un ∨ ∃ b, lget (dpN e) env d = .c (.b b) ∧ b ≠ want)
def GdRun (all : List Oper) (e : Nat) (env : Env e) (o : Oper) : Prop := o.guard = none ∨ ∃ j want d, o.guard = some (j, want) ∧ dstOf all j = some d ∧ d < e ∧ lget (dpN e) env d = .c (.b want)

/-- What a load yields as long as an object is as it is. -/
def LdSem (P : Program) (e : Nat) (env : Env e) (o : Oper) (H : Hp) (v : V) : Prop :=
  ∃ ob wr n dp d, lget 7 H.t ob = .ob wr n dp d ∧ ∀ H2 m B w renv, lget 7 H2.t ob = .ob wr n dp d → HR m B w H2 → OpsR m e env renv o.op.operands.toList → ∃ rv, (∀ w2, w2 = w → (execOp (ev renv) o).run P w2 = .ok (.value rv) w2) ∧ VR m v rv

theorem LdSem.of {t : TypeId} {x : Operand} {K : V → Prop} (ho : o.op = .load t x) (h : (loadC P e t x).go env H K) : ∃ v, K v ∧ LdSem P e env o H v := by
  obtain ⟨v, ob, wr, n, dp, d, hg, hk, hl⟩ := loadC_obj h
  refine ⟨v, hk, ob, wr, n, dp, d, hg, fun H2 m B w renv hg2 hH hr => ?_⟩
  obtain ⟨rv, hrun, hv⟩ := hl H2 m B w renv hg2 hH (by rintro y rfl; exact hr (.tmp y) (by rw [ho]; simp [Op.operands]) y rfl)
  have he : execOp (ev renv) o = (do pure (.value (← Instr.loadAt t (ev renv x)))) := by unfold execOp; rw [ho]
  refine ⟨rv, ?_, hv⟩
  rintro _ rfl
  rw [he, Sem.run_bind, hrun]
  rfl

theorem LdSem.same {x y : V} (h : LdSem P e env o H y) (hs : ∀ m rv, VR m y rv → VR m x rv) : LdSem P e env o H x := by
  obtain ⟨ob, wr, n, dp, d, hg, hl⟩ := h
  refine ⟨ob, wr, n, dp, d, hg, fun H2 m B w renv hg2 hH hr => ?_⟩
  obtain ⟨rv, hrun, hv⟩ := hl H2 m B w renv hg2 hH hr
  exact ⟨rv, hrun, hs _ _ hv⟩

theorem lget_mod {β : Type} : ∀ (n : Nat) (t : Lv β n) (k : Nat), lget n t k = lget n t (k % 4 ^ n)
  | 0, _, _ => rfl
  | n + 1, t, k => by
    show lget n (sel t (k % 4)) (k / 4) = lget n (sel t (k % 4 ^ (n + 1) % 4)) (k % 4 ^ (n + 1) / 4)
    have h1 : 4 ^ (n + 1) = 4 * 4 ^ n := by rw [Nat.pow_succ, Nat.mul_comm]
    rw [h1, Nat.mod_mul_right_div_self, Nat.mod_mul_right_mod, lget_mod n _ (k / 4)]

/-- A new object does not touch what a load has seen. -/
theorem LdSem.add {v : V} {b : Ob} {B : Bs} (h : LdSem P e env o H v) (hH : HR m B w H) (hn : H.next ≤ 16383) : LdSem P e env o ⟨H.next + 1, lset 7 H.t H.next b⟩ v := by
  obtain ⟨ob, wr, n, dp, d, hg, hl⟩ := h
  refine ⟨ob, wr, n, dp, d, ?_, hl⟩
  show lget 7 (lset 7 H.t H.next b) ob = _
  rw [lget_mod, ← hlim] at hg ⊢
  have hlt := Nat.mod_lt ob (show 16384 > 0 by omega)
  rw [lget_lset 7 _ _ _ _ (by rw [← hlim]; omega) (by rw [← hlim]; exact hlt)]
  split
  · rename_i he
    rw [he, hH.dead H.next (Nat.le_refl _) (by omega)] at hg
    cases hg
  · exact hg

/-- What is looked at again. -/
def Again (P : Program) (e : Nat) (all : List Oper) (env : Env e) (H : Hp) (i : Nat) : Prop :=
  ∃ o, all[i]? = some o ∧ ((∃ d, o.dst = some d ∧ d < e ∧ LdSem P e env o H (lget (dpN e) env d)) ∨ GdSkip all e env o)

theorem chkC_sound {all : List Oper} : ∀ {l : List Nat} {X : Prop}, (chkC P e all l).go env H X → X ∧ ∀ i ∈ l, Again P e all env H i
  | [], X, h => ⟨h, fun i hi => by cases hi⟩
  | i :: l, X, h => by
    have h0 : (match all[i]? with
      | some o => (match o.op, o.dst with
        | .load t x, some d => (match o.guard with
          | none => (loadC P e t x).bind fun g => (getE e d).bind fun h => (chkC P e all l).bind fun nx => ⟨fun env H K => g env H fun v => h env fun u => sameV u v (nx env H K)⟩
          | some (j, want) => (match Eng.dstOf all j with
            | some gd => (getE e gd).bind fun gg => (loadC P e t x).bind fun g => (getE e d).bind fun h => (chkC P e all l).bind fun nx => ⟨fun env H K => gg env fun b => gdK want b (g env H fun v => h env fun u => sameV u v (nx env H K)) (nx env H K)⟩
            | none => ⟨fun _ _ _ => False⟩))
        | _, _ => ⟨fun _ _ _ => False⟩)
      | none => ⟨fun _ _ _ => False⟩ : Bx (Env e → Hp → Prop → Prop)).go env H X := h
    split at h0
    · rename_i o hi
      split at h0
      · rename_i t x d hop hdst
        have main : (loadC P e t x).go env H (fun v => (getE e d).go env fun u => sameV u v ((chkC P e all l).go env H X)) → X ∧ ∀ k ∈ i :: l, Again P e all env H k := by
          intro h0
          obtain ⟨v, h1, hL⟩ := LdSem.of hop h0
          obtain ⟨hd, h2⟩ := getE_iff h1
          obtain ⟨h3, hs⟩ := sameV_sound h2
          obtain ⟨h4, h5⟩ := chkC_sound h3
          refine ⟨h4, fun k hk => ?_⟩
          rcases List.mem_cons.1 hk with rfl | hk
          · exact ⟨o, hi, .inl ⟨d, hdst, hd, hL.same hs⟩⟩
          · exact h5 k hk
        split at h0
        · rw [bind_go, bind_go, bind_go, mk_go] at h0
          exact main h0
        · rename_i j want hg
          split at h0
          · rename_i gd hgd
            rw [bind_go, bind_go, bind_go, bind_go, mk_go] at h0
            obtain ⟨hde, h1⟩ := getE_iff h0
            have skip : GdSkip all e env o → (chkC P e all l).go env H X → X ∧ ∀ k ∈ i :: l, Again P e all env H k := by
              intro hs h3
              obtain ⟨h4, h5⟩ := chkC_sound h3
              refine ⟨h4, fun k hk => ?_⟩
              rcases List.mem_cons.1 hk with rfl | hk
              · exact ⟨o, hi, .inr hs⟩
              · exact h5 k hk
            rcases gdK_iff h1 with ⟨hx, h2⟩ | ⟨b, hx, ⟨hb, h2⟩ | ⟨hb, h2⟩⟩
            · exact skip ⟨j, want, gd, hg, hgd, hde, .inl hx⟩ h2
            · exact main h2
            · exact skip ⟨j, want, gd, hg, hgd, hde, .inr ⟨b, hx, hb⟩⟩ h2
          · exact h0.elim
      · exact h0.elim
    · exact h0.elim

/-- An object that is there gets its block. -/
theorem HR.bind {B : Bs} {g b N n dp : Nat} {wr : Bool} {d : Lv C dp} {cs : List Value} {T : TypeId} (h : HR m B w H) (hl : g < H.next) (hg : lget 7 H.t g = .ob wr n dp d) (hm : m g = none) (hk : Keep (fun k => k = b) w w') (hB : B.w.heap.size ≤ b ∨ B.M b) (hblk : Blk w' b cs T) (hcell : b < w.heap.size → ∃ cs T, Blk w b cs T) (hcl : cs.length = N) (hnN : n ≤ N) (hdp : n ≤ 4 ^ dp)
    (htr : TR m dp d 0 (cs.take n)) (hfree : ∀ o wr n dp d N, lget 7 H.t o = .ob wr n dp d → m o ≠ some (b, N)) : HR (mset m g (b, N)) B w' H := by
  have old : ∀ {o p}, mset m g (b, N) o = some p → o ≠ g → m o = some p := by
    intro o p ho hne
    unfold mset at ho
    rw [if_neg hne] at ho
    exact ho
  have new : ∀ {p}, mset m g (b, N) g = some p → p = (b, N) := by
    intro p hp
    unfold mset at hp
    rw [if_pos rfl] at hp
    simpa using hp.symm
  refine ⟨Nat.le_trans h.size hk.size, h.lim, ?_, h.dead, ?_, ?_, ?_⟩
  · intro o ho
    unfold mset
    rw [if_neg (by omega)]
    exact h.unm o ho
  · intro o b' N' ho
    by_cases hne : o = g
    · subst hne
      have := new ho
      simp only [Prod.mk.injEq] at this
      obtain ⟨rfl, rfl⟩ := this
      exact ⟨hB, .inr (.inr ⟨fun e => (by rw [hg] at e; cases e), fun q e => (by rw [hg] at e; cases e), _, _, hblk⟩)⟩
    · obtain ⟨h1, h2⟩ := h.blk o b' N' (old ho hne)
      exact ⟨h1, h2.keep hk (fun k hk0 e => e ▸ hcell (e ▸ hk0)) (fun k e => ⟨_, _, e ▸ hblk⟩) (mset_le hm) rfl⟩
  · intro o wr n' dp' d' b' N' hg' ho
    by_cases hne : o = g
    · subst hne
      rw [hg] at hg'
      have := new ho
      simp only [Prod.mk.injEq] at this
      obtain ⟨rfl, rfl⟩ := this
      cases hg'
      exact ⟨cs, T, hblk, hcl, hnN, hdp, htr.mono (mset_le hm)⟩
    · obtain ⟨cs', T', h1, h2, h3, h4, h5⟩ := h.ob o wr n' dp' d' b' N' hg' (old ho hne)
      have hbb : b' ≠ b := by
        rintro rfl
        exact hfree o _ _ _ _ N' hg' (old ho hne)
      exact ⟨cs', T', hk.blk h1 hbb, h2, h3, h4, h5.mono (mset_le hm)⟩
  · intro o o' wr n' dp' d' wr' n'' dp'' d'' b' N' N'' hg1 hg2 ho ho'
    by_cases hne : o = g
    · by_cases hne' : o' = g
      · rw [hne, hne']
      · exfalso
        subst hne
        have := new ho
        simp only [Prod.mk.injEq] at this
        obtain ⟨rfl, rfl⟩ := this
        exact hfree o' _ _ _ _ _ hg2 (old ho' hne')
    · by_cases hne' : o' = g
      · exfalso
        subst hne'
        have := new ho'
        simp only [Prod.mk.injEq] at this
        obtain ⟨rfl, rfl⟩ := this
        exact hfree o _ _ _ _ _ hg1 (old ho hne)
      · exact h.inj o o' _ _ _ _ _ _ _ _ _ _ _ hg1 hg2 (old ho hne) (old ho' hne')
end
end Go.Mx

/-! ## Mp15 -/
set_option linter.unusedVariables false
namespace Go.Mx
open Go.Eng

section
variable {P : Program} {e : Nat} {all : List Oper} {w0 : Bs} {m0 : Mp} {H0 : Hp} {base : Nat → V}


/-- What M knows of an operation that the program has not done yet. -/
def Ct (P : Program) (e : Nat) (all : List Oper) (H0 : Hp) (env : Env e) (H : Hp) (m : Mp) (g : Nat) (o : Oper) (v : V) : Prop :=
  (GdSkip all e env o ∧ v = .c .un) ∨ (GdRun all e env o ∧ (PuSem P e env o v ∨ LdSem P e env o H v ∧ kindO o.op = 1 ∨ kindO o.op = 2 ∧ H0.next ≤ g ∧ g < H.next ∧ m g = none ∧ ∃ b f, FrSem P e env o b f ∧ v = f g ∧ lget 7 H.t g = b))

structure Inv (P : Program) (e : Nat) (all : List Oper) (w0 : Bs) (m0 : Mp) (H0 : Hp) (base : Nat → V) (L : List Nat) (val : Nat → V) (gh : Nat → Nat) (R : Nat → Bool) (env : Env e) (H : Hp) (m : Mp) (w : World) (renv : List Value) : Prop where
  st : St w0 m w H
  le0 : Le m0 m
  gh0 : Gh m0 m H0 H
  envM : ∀ t, t < e → lget (dpN e) env t = curA all val base L t
  len : renv.length = e
  slot : ∀ t, t < e → VR m (cur all val base R L t) (renv.getD t undef)
  lok : LOk all L
  lt : ∀ j ∈ L, j < all.length
  rl : ∀ i, R i = true → i ∈ L
  closR : ∀ k, R k = true → ∀ j ∈ depsI all k, R j = true
  cert : ∀ L1 i L2, L = L1 ++ i :: L2 → R i = false → ∃ (o : Oper) (env_i : Env e), all[i]? = some o ∧ (∀ t, t < e → lget (dpN e) env_i t = curA all val base L2 t) ∧ Ct P e all H0 env_i H m (gh i) o (val i)
  ghd : ∀ i j, i ∈ L → j ∈ L → R i = false → R j = false → kindI all i = 2 → kindI all j = 2 → gh i = gh j → i = j
  ghs : ∀ i, i ∈ L → R i = false → kindI all i = 2 → gh i < H.next ∨ gh i = 20000 + i

variable {L : List Nat} {val : Nat → V} {gh : Nat → Nat} {R : Nat → Bool} {env : Env e} {H : Hp} {m : Mp} {w : World} {renv : List Value}

theorem dstOf_eq {i : Nat} {o : Oper} (h : all[i]? = some o) : dstOf all i = o.dst := by unfold dstOf; rw [h]
theorem kindI_eq {i : Nat} {o : Oper} (h : all[i]? = some o) : kindI all i = kindO o.op := by unfold kindI; rw [h]

/-- The program has done one more that M has done. -/
theorem Inv.done (hT : TmpOk all) (I : Inv P e all w0 m0 H0 base L val gh R env H m w renv) {L1 L2 : List Nat} {i : Nat} (hL : L = L1 ++ i :: L2) (hn : R i = false) (hr : ∀ k ∈ depsI all i, R k = true) {o : Oper} (ho : all[i]? = some o) {m' : Mp} {w' : World} {rv : Value}
    (hle : Le m m') (hv : VR m' (val i) rv) (hS : St w0 m' w' H) (hG : Gh m0 m' H0 H) (hgh : ∀ k ∈ L, R k = false → k ≠ i → kindI all k = 2 → m (gh k) = none → m' (gh k) = none) :
    Inv P e all w0 m0 H0 base L val gh (fun k => R k || k == i) env H m' w' (put renv o.dst rv) := by
  have hR' : ∀ k, (R k || k == i) = true → R k = true ∨ k = i := fun k hk => by simpa using hk
  have hRf : ∀ k, (R k || k == i) = false → R k = false ∧ k ≠ i := fun k hk => by simpa using hk
  refine ⟨hS, I.le0.trans hle, hG, I.envM, ?_, ?_, I.lok, I.lt, ?_, ?_, ?_, ?_, fun k hk hRk => I.ghs k hk (hRf k hRk).1⟩
  · cases hd : o.dst with
    | none => exact I.len
    | some d => show (renv.set d rv).length = e; rw [List.length_set]; exact I.len
  · intro t ht
    have hc := cur_one (val := val) (base := base) (t := t) hT (hL ▸ I.lok) (hL ▸ I.lt) I.closR hn
    rw [← hL] at hc
    rw [hc, dstOf_eq ho]
    by_cases hd : o.dst = some t
    · rw [if_pos hd, hd]
      show VR m' (val i) ((renv.set t rv).getD t undef)
      rw [List.getD_eq_getElem?_getD, List.getElem?_set, if_pos rfl, if_pos (by rw [I.len]; exact ht)]
      exact hv
    · rw [if_neg hd]
      have h1 := (I.slot t ht).mono hle
      cases hd2 : o.dst with
      | none => exact h1
      | some d =>
        show VR m' _ ((renv.set d rv).getD t undef)
        rw [List.getD_eq_getElem?_getD, List.getElem?_set, if_neg (fun e => hd (by rw [hd2, e])), ← List.getD_eq_getElem?_getD]
        exact h1
  · intro k hk
    rcases hR' k hk with h | rfl
    · exact I.rl k h
    · rw [hL]; simp
  · intro k hk j hj
    rcases hR' k hk with h | rfl
    · simp [I.closR k h j hj]
    · simp [hr j hj]
  · intro M1 k M2 e1 hk
    obtain ⟨h1, h2⟩ := hRf k hk
    obtain ⟨ok, env_k, hok, henv, hct⟩ := I.cert M1 k M2 e1 h1
    refine ⟨ok, env_k, hok, henv, ?_⟩
    rcases hct with hct | ⟨hg, hct | hct | ⟨hk2, a1, a2, a3, a4⟩⟩
    · exact .inl hct
    · exact .inr ⟨hg, .inl hct⟩
    · exact .inr ⟨hg, .inr (.inl hct)⟩
    · exact .inr ⟨hg, .inr (.inr ⟨hk2, a1, a2, hgh k (by rw [e1]; simp) h1 h2 (by rw [kindI_eq hok]; exact hk2) a3, a4⟩)⟩
  · intro k j hk hj hRk hRj
    exact I.ghd k j hk hj (hRf k hRk).1 (hRf j hRj).1

theorem Inv.reads (hT : TmpOk all) (I : Inv P e all w0 m0 H0 base L val gh R env H m w renv) {L1 L2 : List Nat} {i : Nat} (hL : L = L1 ++ i :: L2) (hn : R i = false) (hr : ∀ k ∈ depsI all i, R k = true) {env_i : Env e} (henv : ∀ t, t < e → lget (dpN e) env_i t = curA all val base L2 t) :
    ∀ t ∈ readsI all i, SlR m e env_i renv t := by
  intro t ht hte
  rw [henv t hte, ← cur_read (val := val) (base := base) hT (hL ▸ I.lok) (hL ▸ I.lt) I.closR hn hr ht, ← hL]
  exact I.slot t hte

theorem reads_ops {i : Nat} {o : Oper} (ho : all[i]? = some o) {env_i : Env e} (h : ∀ t ∈ readsI all i, SlR m e env_i renv t) : OpsR m e env_i renv o.op.operands.toList := by
  rintro x hx t rfl
  refine h t ?_
  unfold readsI
  rw [ho]
  unfold readsO
  refine List.mem_append_left _ (List.mem_flatMap.2 ⟨_, hx, ?_⟩)
  simp [tmpO]

theorem reads_gd {i j d : Nat} {want : Bool} {o : Oper} (ho : all[i]? = some o) (hg : o.guard = some (j, want)) (hd : dstOf all j = some d) : d ∈ readsI all i := by
  unfold readsI
  rw [ho]
  unfold readsO
  simp [hg, hd]

theorem slot_get {d : Nat} (hl : renv.length = e) (hd : d < e) : renv[d]? = some (renv.getD d undef) := by
  rw [List.getD_eq_getElem?_getD, List.getElem?_eq_getElem (by rw [hl]; exact hd)]
  rfl

theorem skip_wanted {i : Nat} {o : Oper} {env_i : Env e} (ho : all[i]? = some o) (hl : renv.length = e) (h : ∀ t ∈ readsI all i, SlR m e env_i renv t) (hg : GdSkip all e env_i o) : Region.wanted o (yielded all.toArray (act renv).tmps) = false := by
  obtain ⟨j, want, d, h1, h2, hd, h3⟩ := hg
  have hs := h d (reads_gd ho h1 h2) hd
  have hy := yielded_act (env := renv) h2
  have hget := slot_get hl hd
  rcases h3 with h3 | ⟨b, h3, hb⟩
  · rw [h3] at hs
    have hs : renv.getD d undef = undef := hs
    rw [hs] at hget
    simp [Region.wanted, h1, hy, hget, undef]
  · rw [h3] at hs
    have hs : renv.getD d undef = .bool b := hs
    rw [hs] at hget
    simp [Region.wanted, h1, hy, hget, hb]

theorem run_wanted {i : Nat} {o : Oper} {env_i : Env e} (ho : all[i]? = some o) (hl : renv.length = e) (h : ∀ t ∈ readsI all i, SlR m e env_i renv t) (hg : GdRun all e env_i o) : Region.wanted o (yielded all.toArray (act renv).tmps) = true := by
  rcases hg with hg | ⟨j, want, d, h1, h2, hd, h3⟩
  · exact wanted_none hg
  · have hs := h d (reads_gd ho h1 h2) hd
    have hy := yielded_act (env := renv) h2
    have hget := slot_get hl hd
    rw [h3] at hs
    have hs : renv.getD d undef = .bool want := hs
    rw [hs] at hget
    simp [Region.wanted, h1, hy, hget]

/-- The program does an operation that M has done before. -/
theorem Inv.replay {Q : Exit → Act → World → Prop} {K : Act → World → Prop} (hT : TmpOk all) (I : Inv P e all w0 m0 H0 base L val gh R env H m w renv) {i : Nat} (hi : i ∈ L) (hn : R i = false) (hr : ∀ k ∈ depsI all i, R k = true)
    (hK : ∀ m' w' renv', Inv P e all w0 m0 H0 base L val gh (fun k => R k || k == i) env H m' w' renv' → K (act renv') w') : wpOp P all.toArray Q i K (act renv) w := by
  obtain ⟨L1, L2, hL⟩ := List.append_of_mem hi
  obtain ⟨o, env_i, ho, henv, hct⟩ := I.cert L1 i L2 hL hn
  have hrd := I.reads hT hL hn hr henv
  have hops := reads_ops ho hrd
  have keep : ∀ k ∈ L, R k = false → k ≠ i → kindI all k = 2 → m (gh k) = none → m (gh k) = none := fun _ _ _ _ _ h => h
  unfold wpOp
  rw [List.getElem?_toArray, ho]
  simp only
  rcases hct with ⟨hg, hv⟩ | ⟨hg, hct⟩
  · rw [if_neg (by rw [skip_wanted ho I.len hrd hg]; simp), put_act]
    exact hK _ _ _ (I.done hT hL hn hr ho (Le.refl m) (by rw [hv]; exact rfl) I.st I.gh0 keep)
  · rw [if_pos (run_wanted ho I.len hrd hg)]
    refine .inl (does_wp (K := fun rv w' => ∃ m', Inv P e all w0 m0 H0 base L val gh (fun k => R k || k == i) env H m' w' (put renv o.dst rv)) ?_ fun rv w' ⟨m', hI⟩ => hK _ _ _ hI)
    rcases hct with hP | ⟨hl, _⟩ | ⟨hk2, a1, a2, a3, b, f, hF, hv, hb⟩
    · obtain ⟨rv, hrun, hv⟩ := hP m renv hops
      exact .inl ⟨_, _, hrun w, m, I.done hT hL hn hr ho (Le.refl m) hv I.st I.gh0 keep⟩
    · obtain ⟨ob, wr, n, dp, d, hg2, hl⟩ := hl
      obtain ⟨rv, hrun, hv⟩ := hl H m _ w renv hg2 I.st.hr hops
      exact .inl ⟨_, _, hrun w rfl, m, I.done hT hL hn hr ho (Le.refl m) hv I.st I.gh0 keep⟩
    · obtain ⟨arr, T, rv, hrun, ⟨n, dp, d, hbb, hn2, hdp, htr⟩, hrel⟩ := hF m renv hops
      have hw : Keep (fun k => k = w.heap.size) w (w.alloc (.cells arr.toArray T)) := Keep.of_new (new_alloc w _)
      have hbind := I.st.hr.bind a2 (hb.trans hbb) a3 hw (.inl I.st.hr.size) (blk_alloc w arr T) (fun h => absurd h (Nat.lt_irrefl _)) rfl (by omega) hdp (by rw [hn2, List.take_length]; exact htr) (fun o wr n dp d N hg hm => by have := I.st.hr.bl hm; omega)
      have hm' : mset m (gh i) (w.heap.size, arr.length) (gh i) = some (w.heap.size, arr.length) := by unfold mset; rw [if_pos rfl]
      have hle : Le m (mset m (gh i) (w.heap.size, arr.length)) := mset_le a3
      refine .inl ⟨_, _, hrun w, _, I.done hT hL hn hr ho hle (by rw [hv]; exact hrel _ _ _ hle hm') ⟨hbind, I.st.new.trans hw fun k hk e => by have := I.st.new.size; omega⟩ ⟨I.gh0.1, fun o ho hno => ⟨?_, (I.gh0.2 o ho hno).2⟩⟩ fun k hk hRk hki hk2' hno => ?_⟩
      · unfold mset; rw [if_neg (by omega)]; exact (I.gh0.2 o ho hno).1
      · unfold mset
        rw [if_neg fun e => hki (I.ghd k i hk hi hRk hn hk2' (by rw [kindI_eq ho]; exact hk2) e)]
        exact hno
end
end Go.Mx

/-! ## Mp16 -/
set_option linter.unusedVariables false
namespace Go.Mx
open Go.Eng

def updN {α : Type} (f : Nat → α) (i : Nat) (v : α) : Nat → α := fun k => if k = i then v else f k
theorem updN_self {α : Type} (f : Nat → α) (i : Nat) (v : α) : updN f i v i = v := by unfold updN; rw [if_pos rfl]
theorem updN_ne {α : Type} (f : Nat → α) {i k : Nat} (v : α) (h : k ≠ i) : updN f i v k = f k := by unfold updN; rw [if_neg h]

section
variable {P : Program} {e : Nat} {all : List Oper} {w0 : Bs} {m0 : Mp} {H0 : Hp} {base : Nat → V}
variable {L : List Nat} {val : Nat → V} {gh : Nat → Nat} {R : Nat → Bool} {env : Env e} {H : Hp} {m : Mp} {w : World} {renv : List Value}

theorem HR.ghost {B : Bs} {b : Ob} (h : HR m B w H) (hn : H.next ≤ 16383) : HR m B w ⟨H.next + 1, lset 7 H.t H.next b⟩ := by
  have get : ∀ o, o < 16384 → lget 7 (lset 7 H.t H.next b) o = if o = H.next then b else lget 7 H.t o := fun o ho => lget_lset 7 _ _ _ _ (by rw [← hlim]; omega) (by rw [← hlim]; exact ho)
  have key : ∀ {o wr n' dp' d' p}, lget 7 (lset 7 H.t H.next b) o = .ob wr n' dp' d' → m o = some p → lget 7 H.t o = .ob wr n' dp' d' := by
    intro o wr n' dp' d' p hg' ho
    have hlt := h.lt ho
    rw [get o (by omega), if_neg (by omega)] at hg'
    exact hg'
  refine ⟨h.size, by show H.next + 1 ≤ 16384; omega, fun o ho => h.unm o (Nat.le_trans (Nat.le_succ _) ho), ?_, ?_, ?_, ?_⟩
  · intro o ho hlt
    have ho : H.next + 1 ≤ o := ho
    show lget 7 (lset 7 H.t H.next b) o = .dead
    rw [get o hlt, if_neg (by omega)]
    exact h.dead o (by omega) hlt
  · intro o b' N' ho
    have hlo := h.lt ho
    have e1 : lget 7 (lset 7 H.t H.next b) o = lget 7 H.t o := by rw [get o (by omega), if_neg (by omega)]
    exact ⟨(h.blk o b' N' ho).1, (h.blk o b' N' ho).2.keep (Keep.refl (fun _ => False) w) (fun _ _ h => h.elim) (fun _ h => h.elim) (Le.refl m) e1⟩
  · intro o wr n' dp' d' b' N' hg' ho
    exact h.ob o wr n' dp' d' b' N' (key hg' ho) ho
  · intro o o' wr1 n1 dp1 d1 wr2 n2 dp2 d2 b' N1 N2 hg1 hg2 ho ho'
    exact h.inj o o' _ _ _ _ _ _ _ _ _ _ _ (key hg1 ho) (key hg2 ho') ho ho'

theorem ghost_gh {b : Ob} (h : H.next ≤ 16383) : Gh m m H ⟨H.next + 1, lset 7 H.t H.next b⟩ := by
  refine ⟨Nat.le_succ _, fun o ho hn => ⟨hn, ?_⟩⟩
  show lget 7 (lset 7 H.t H.next b) o = _
  rw [lget_lset 7 _ _ _ _ (by rw [← hlim]; omega) (by rw [← hlim]; omega), if_neg (by omega)]

theorem curA_upd {i : Nat} {v : V} {M : List Nat} (h : i ∉ M) (R : Nat → Bool) (t : Nat) : cur all (updN val i v) base R M t = cur all val base R M t :=
  cur_congr (fun _ _ => rfl) fun j hj => updN_ne _ _ fun e => h (e ▸ hj)

/-- M goes ahead. -/
theorem Inv.ahead (I : Inv P e all w0 m0 H0 base L val gh R env H m w renv) {i : Nat} {o : Oper} {v : V} {g : Nat} {env' : Env e} {H' : Hp} (hi : i ∉ L) (hlt : i < all.length) (hd : ∀ j ∈ depsI all i, j ∈ L) (ho : all[i]? = some o)
    (henv : ∀ t, t < e → lget (dpN e) env' t = if o.dst = some t then v else lget (dpN e) env t) (hH : H' = H ∨ (H.next ≤ 16383 ∧ ∃ b, H' = ⟨H.next + 1, lset 7 H.t H.next b⟩))
    (hg2 : kindO o.op = 2 → (g = H.next ∧ H.next < H'.next) ∨ g = 20000 + i) (hct : Ct P e all H0 env H' m g o v) : Inv P e all w0 m0 H0 base (i :: L) (updN val i v) (updN gh i g) R env' H' m w renv := by
  have hRi : R i = false := by
    cases h : R i with
    | true => exact absurd (I.rl i h) hi
    | false => rfl
  have hne : ∀ k ∈ L, k ≠ i := fun k hk e => hi (e ▸ hk)
  have hGh : Gh m m H H' := by
    rcases hH with rfl | ⟨hn, b, rfl⟩
    · exact Gh.refl m _
    · exact ghost_gh hn
  have hlim' := I.st.hr.lim
  refine ⟨?_, I.le0, I.gh0.trans hGh, ?_, I.len, ?_, I.lok.cons hi hd, ?_, fun k hk => List.mem_cons_of_mem _ (I.rl k hk), I.closR, ?_, ?_, ?_⟩
  · rcases hH with rfl | ⟨hn, b, rfl⟩
    · exact I.st
    · exact ⟨I.st.hr.ghost hn, I.st.new⟩
  · intro t ht
    rw [henv t ht]
    by_cases hdt : o.dst = some t
    · rw [if_pos hdt, curA, cur_hit rfl (by rw [dstOf_eq ho]; exact hdt), updN_self]
    · rw [if_neg hdt, curA, cur_miss (fun _ => by rw [dstOf_eq ho]; exact hdt), curA_upd hi, I.envM t ht]
  · intro t ht
    rw [cur_miss (fun h => by rw [hRi] at h; cases h), curA_upd hi]
    exact I.slot t ht
  · intro j hj
    rcases List.mem_cons.1 hj with rfl | hj
    · exact hlt
    · exact I.lt j hj
  · intro M1 k M2 e1 hk
    cases M1 with
    | nil =>
      simp only [List.nil_append, List.cons.injEq] at e1
      obtain ⟨rfl, rfl⟩ := e1
      refine ⟨o, env, ho, fun t ht => ?_, ?_⟩
      · rw [curA, curA_upd hi]; exact I.envM t ht
      · rw [updN_self, updN_self]; exact hct
    | cons x M1 =>
      simp only [List.cons_append, List.cons.injEq] at e1
      obtain ⟨rfl, e1⟩ := e1
      have hkL : k ∈ L := by rw [e1]; simp
      obtain ⟨ok, env_k, hok, henvk, hct'⟩ := I.cert M1 k M2 e1 hk
      refine ⟨ok, env_k, hok, fun t ht => ?_, ?_⟩
      · rw [curA, curA_upd (M := M2) (fun h => hi (by rw [e1]; simp [h]))]
        exact henvk t ht
      · rw [updN_ne _ _ (hne k hkL), updN_ne _ _ (hne k hkL)]
        rcases hct' with hct' | ⟨hg, hct' | ⟨hct', hk1⟩ | ⟨hk2, a1, a2, a3, b, f, a4, a5, a6⟩⟩
        · exact .inl hct'
        · exact .inr ⟨hg, .inl hct'⟩
        · refine .inr ⟨hg, .inr (.inl ⟨?_, hk1⟩)⟩
          rcases hH with rfl | ⟨hn, b, rfl⟩
          · exact hct'
          · exact hct'.add I.st.hr hn
        · exact .inr ⟨hg, .inr (.inr ⟨hk2, a1, Nat.lt_of_lt_of_le a2 hGh.1, a3, b, f, a4, a5, by rw [(hGh.2 _ a2 a3).2]; exact a6⟩)⟩
  · intro k j hk hj hRk hRj hk2 hj2 heq
    rcases List.mem_cons.1 hk with hki | hkL
    · rcases List.mem_cons.1 hj with hji | hjL
      · rw [hki, hji]
      · exfalso
        subst hki
        rw [updN_self, updN_ne _ _ (hne j hjL)] at heq
        rcases hg2 (by rw [← kindI_eq ho]; exact hk2) with ⟨e1, _⟩ | e1 <;> rcases I.ghs j hjL hRj hj2 with e2 | e2
        · omega
        · omega
        · omega
        · exact hne j hjL (by omega)
    · rcases List.mem_cons.1 hj with hji | hjL
      · exfalso
        subst hji
        rw [updN_self, updN_ne _ _ (hne k hkL)] at heq
        rcases hg2 (by rw [← kindI_eq ho]; exact hj2) with ⟨e1, _⟩ | e1 <;> rcases I.ghs k hkL hRk hk2 with e2 | e2
        · omega
        · omega
        · omega
        · exact hne k hkL (by omega)
      · rw [updN_ne _ _ (hne k hkL), updN_ne _ _ (hne j hjL)] at heq
        exact I.ghd k j hkL hjL hRk hRj hk2 hj2 heq
  · intro k hk hRk hk2
    rcases List.mem_cons.1 hk with hki | hkL
    · subst hki
      rw [updN_self]
      rcases hg2 (by rw [← kindI_eq ho]; exact hk2) with ⟨e1, e2⟩ | e1
      · exact .inl (by omega)
      · exact .inr e1
    · rw [updN_ne _ _ (hne k hkL)]
      rcases I.ghs k hkL hRk hk2 with e2 | e2
      · exact .inl (Nat.lt_of_lt_of_le e2 hGh.1)
      · exact .inr e2

/-- M and the program go together. -/
theorem Inv.both (I : Inv P e all w0 m0 H0 base L val gh R env H m w renv) {i : Nat} {o : Oper} {v : V} {rv : Value} {env' : Env e} {H' : Hp} {m' : Mp} {w' : World} (hi : i ∉ L) (hlt : i < all.length) (hr : ∀ j ∈ depsI all i, R j = true) (ho : all[i]? = some o)
    (henv : ∀ t, t < e → lget (dpN e) env' t = if o.dst = some t then v else lget (dpN e) env t) (hle : Le m m') (hv : VR m' v rv) (hS : St w0 m' w' H') (hGh : Gh m m' H H')
    (hld : ∀ L1 k L2 ok env_k, L = L1 ++ k :: L2 → all[k]? = some ok → R k = false → kindO ok.op = 1 → (∀ t, t < e → lget (dpN e) env_k t = curA all val base L2 t) → GdRun all e env_k ok → LdSem P e env_k ok H (val k) → LdSem P e env_k ok H' (val k)) :
    Inv P e all w0 m0 H0 base (i :: L) (updN val i v) gh (fun k => R k || k == i) env' H' m' w' (put renv o.dst rv) := by
  have hne : ∀ k ∈ L, k ≠ i := fun k hk e => hi (e ▸ hk)
  have hRf : ∀ k, (R k || k == i) = false → R k = false ∧ k ≠ i := fun k hk => by simpa using hk
  have hRL : ∀ j ∈ L, (R j || j == i) = R j := fun j hj => by simp [hne j hj]
  have inL : ∀ k, k ∈ i :: L → k ≠ i → k ∈ L := fun k hk hki => by
    rcases List.mem_cons.1 hk with h | h
    · exact absurd h hki
    · exact h
  refine ⟨hS, I.le0.trans hle, I.gh0.trans hGh, ?_, ?_, ?_, I.lok.cons hi fun j hj => I.rl j (hr j hj), ?_, ?_, ?_, ?_, ?_, ?_⟩
  · intro t ht
    rw [henv t ht]
    by_cases hdt : o.dst = some t
    · rw [if_pos hdt, curA, cur_hit rfl (by rw [dstOf_eq ho]; exact hdt), updN_self]
    · rw [if_neg hdt, curA, cur_miss (fun _ => by rw [dstOf_eq ho]; exact hdt), curA_upd hi, I.envM t ht]
  · cases hd : o.dst with
    | none => exact I.len
    | some d => show (renv.set d rv).length = e; rw [List.length_set]; exact I.len
  · intro t ht
    by_cases hd : o.dst = some t
    · rw [cur_hit (R := fun k => R k || k == i) (by simp) (by rw [dstOf_eq ho]; exact hd), updN_self, hd]
      show VR m' v ((renv.set t rv).getD t undef)
      rw [List.getD_eq_getElem?_getD, List.getElem?_set, if_pos rfl, if_pos (by rw [I.len]; exact ht)]
      exact hv
    · rw [cur_miss (R := fun k => R k || k == i) (fun _ => by rw [dstOf_eq ho]; exact hd), curA_upd hi, cur_congr (R' := R) hRL fun _ _ => rfl]
      have h1 := (I.slot t ht).mono hle
      cases hd2 : o.dst with
      | none => exact h1
      | some d =>
        show VR m' _ ((renv.set d rv).getD t undef)
        rw [List.getD_eq_getElem?_getD, List.getElem?_set, if_neg (fun e => hd (by rw [hd2, e])), ← List.getD_eq_getElem?_getD]
        exact h1
  · intro j hj
    rcases List.mem_cons.1 hj with rfl | hj
    · exact hlt
    · exact I.lt j hj
  · intro k hk
    simp only [Bool.or_eq_true, beq_iff_eq] at hk
    rcases hk with h | rfl
    · exact List.mem_cons_of_mem _ (I.rl k h)
    · simp
  · intro k hk j hj
    simp only [Bool.or_eq_true, beq_iff_eq] at hk
    rcases hk with h | rfl
    · simp [I.closR k h j hj]
    · simp [hr j hj]
  · intro M1 k M2 e1 hk
    obtain ⟨h1, h2⟩ := hRf k hk
    cases M1 with
    | nil =>
      simp only [List.nil_append, List.cons.injEq] at e1
      exact absurd e1.1.symm h2
    | cons x M1 =>
      simp only [List.cons_append, List.cons.injEq] at e1
      obtain ⟨rfl, e1⟩ := e1
      obtain ⟨ok, env_k, hok, henvk, hct'⟩ := I.cert M1 k M2 e1 h1
      refine ⟨ok, env_k, hok, fun t ht => ?_, ?_⟩
      · rw [curA, curA_upd (M := M2) (fun h => hi (by rw [e1]; simp [h]))]
        exact henvk t ht
      · rw [updN_ne _ _ h2]
        rcases hct' with hct' | ⟨hg, hct' | ⟨hct', hk1⟩ | ⟨hk2, a1, a2, a3, b, f, a4, a5, a6⟩⟩
        · exact .inl hct'
        · exact .inr ⟨hg, .inl hct'⟩
        · exact .inr ⟨hg, .inr (.inl ⟨hld M1 k M2 ok env_k e1 hok h1 hk1 henvk hg hct', hk1⟩)⟩
        · exact .inr ⟨hg, .inr (.inr ⟨hk2, a1, Nat.lt_of_lt_of_le a2 hGh.1, (hGh.2 _ a2 a3).1, b, f, a4, a5, by rw [(hGh.2 _ a2 a3).2]; exact a6⟩)⟩
  · intro k j hk hj hRk hRj
    obtain ⟨h1, h2⟩ := hRf k hRk
    obtain ⟨h3, h4⟩ := hRf j hRj
    exact I.ghd k j (inL k hk h2) (inL j hj h4) h1 h3
  · intro k hk hRk hk2
    obtain ⟨h1, h2⟩ := hRf k hRk
    rcases I.ghs k (inL k hk h2) h1 hk2 with e2 | e2
    · exact .inl (Nat.lt_of_lt_of_le e2 hGh.1)
    · exact .inr e2

/-! ### A step of M -/

theorem chkN_sound {l : List Nat} {nx : CdR e} {call : Cal} {K : Env e → Hp → Prop} (h : (chkN P e all l nx).go call env H K) : nx call env H K ∧ ∀ i ∈ l, Again P e all env H i := by
  unfold chkN at h
  split at h
  · exact ⟨h, fun i hi => by cases hi⟩
  · rw [bind_go, mk_go] at h
    exact chkC_sound h

theorem then_cases {o : Oper} {r : OpR e} {nx : CdR e} {call : Cal} {K : Env e → Hp → Prop} (h : (thenC P e all o r nx).go call env H K) :
    (GdRun all e env o ∧ r call env H fun v H => (putC e o.dst).go env v fun env => nx call env H K) ∨ (GdSkip all e env o ∧ (putC e o.dst).go env (.c .un) fun env => nx call env H K) := by
  unfold thenC at h
  split at h
  · rename_i hg
    rw [bind_go, mk_go] at h
    exact .inl ⟨.inl hg, h⟩
  · rename_i j want hg
    split at h
    · rename_i d hd
      rw [bind_go, bind_go, mk_go] at h
      obtain ⟨hde, h1⟩ := getE_iff h
      rcases gdK_iff h1 with ⟨hx, h2⟩ | ⟨b, hx, ⟨hb, h2⟩ | ⟨hb, h2⟩⟩
      · exact .inr ⟨⟨j, want, d, hg, hd, hde, .inl hx⟩, h2⟩
      · exact .inl ⟨.inr ⟨j, want, d, hg, hd, hde, by rw [hx, hb]⟩, h2⟩
      · exact .inr ⟨⟨j, want, d, hg, hd, hde, .inr ⟨b, hx, hb⟩⟩, h2⟩
    · exact h.elim

theorem putC_env (he : e ≤ 16384) {d : Option Tmp} {v : V} {K : Env e → Prop} (h : (putC e d).go env v K) : ∃ env', K env' ∧ ∀ t, t < e → lget (dpN e) env' t = if d = some t then v else lget (dpN e) env t := by
  cases d with
  | none => exact ⟨env, h, fun t _ => by simp⟩
  | some d =>
    obtain ⟨ht, hk⟩ := setE_iff (show (setE e d).go env v K from h)
    refine ⟨_, hk, fun t hte => ?_⟩
    have hdp := dpN_le he
    rw [lget_lset _ _ _ _ _ (by omega) (by omega)]
    by_cases hd : t = d
    · subst hd; rw [if_pos rfl, if_pos rfl]
    · rw [if_neg hd, if_neg fun e => hd (by simpa using e.symm)]

theorem stepsC_cons {s : Step} {l : List Step} {call : Cal} {K : Env e → Hp → Prop} (h : (stepsC P e all (s :: l)).go call env H K) : (thenC P e all s.o (opD P e s.o.op).go (chkN P e all s.chk (stepsC P e all l).go).go).go call env H K := by
  have h0 : ((opD P e s.o.op).bind fun r => (stepsC P e all l).bind fun nx => (chkN P e all s.chk nx).bind fun nx => thenC P e all s.o r nx).go call env H K := h
  rw [bind_go, bind_go, bind_go] at h0
  exact h0

/-- A step that is no store and no call. -/
theorem step_ahead (he : e ≤ 16384) {s : Step} {l : List Step} {call : Cal} {K : Env e → Hp → Prop} {B : Bs} (hHR : HR m B w H) (hG : Gh m0 m H0 H) (hk : kindO s.o.op ≠ 3) (h : (stepsC P e all (s :: l)).go call env H K) :
    ∃ v g env' H', (stepsC P e all l).go call env' H' K ∧ (∀ t, t < e → lget (dpN e) env' t = if s.o.dst = some t then v else lget (dpN e) env t) ∧ (H' = H ∨ (H.next ≤ 16383 ∧ ∃ b, H' = ⟨H.next + 1, lset 7 H.t H.next b⟩)) ∧
      (kindO s.o.op = 2 → (g = H.next ∧ H.next < H'.next) ∨ g = 20000 + s.i) ∧ Ct P e all H0 env H' m g s.o v := by
  rcases then_cases (stepsC_cons h) with ⟨hg, h1⟩ | ⟨hg, h1⟩
  · unfold opD at h1
    split at h1
    · rename_i hk0
      rw [bind_go, mk_go] at h1
      obtain ⟨v, h2, hP⟩ := pureC_sound h1
      obtain ⟨env', h3, h4⟩ := putC_env he h2
      exact ⟨v, 0, env', H, (chkN_sound h3).1, h4, .inl rfl, fun hh => (by rw [hk0] at hh; cases hh), .inr ⟨hg, .inl hP⟩⟩
    · rename_i hk1
      split at h1
      · rename_i t x ho
        rw [bind_go, mk_go] at h1
        obtain ⟨v, h2, hL⟩ := LdSem.of ho h1
        obtain ⟨env', h3, h4⟩ := putC_env he h2
        exact ⟨v, 0, env', H, (chkN_sound h3).1, h4, .inl rfl, fun hh => (by rw [hk1] at hh; cases hh), .inr ⟨hg, .inr (.inl ⟨hL, hk1⟩)⟩⟩
      · exact h1.elim
    · rename_i hk2
      rw [bind_go, mk_go] at h1
      obtain ⟨b, f, h2, hF⟩ := freshC_sound h1
      obtain ⟨hn, h3⟩ := newK_iff h2
      obtain ⟨env', h4, h5⟩ := putC_env he h3
      refine ⟨f H.next, H.next, env', _, (chkN_sound h4).1, h5, .inr ⟨hn, b, rfl⟩, fun _ => .inl ⟨rfl, Nat.lt_succ_self _⟩, .inr ⟨hg, .inr (.inr ⟨hk2, hG.1, Nat.lt_succ_self _, hHR.unm _ (Nat.le_refl _), b, f, hF, rfl, ?_⟩)⟩⟩
      show lget 7 (lset 7 H.t H.next b) H.next = b
      rw [lget_lset 7 _ _ _ _ (by rw [← hlim]; omega) (by rw [← hlim]; omega), if_pos rfl]
    · exfalso
      rename_i h0' h1' h2'
      have : kindO s.o.op = 0 ∨ kindO s.o.op = 1 ∨ kindO s.o.op = 2 ∨ kindO s.o.op = 3 := by
        unfold kindO
        split <;> simp
      rcases this with h | h | h | h
      · exact h0' h
      · exact h1' h
      · exact h2' h
      · exact hk h
  · obtain ⟨env', h3, h4⟩ := putC_env he h1
    exact ⟨.c .un, 20000 + s.i, env', H, (chkN_sound h3).1, h4, .inl rfl, fun _ => .inr rfl, .inl ⟨hg, rfl⟩⟩
end
end Go.Mx

/-! ## Mp17 -/
set_option linter.unusedVariables false
namespace Go.Mx
open Go.Eng

section
variable {P : Program} {e : Nat} {all : List Oper} {w0 : Bs} {m0 : Mp} {H0 : Hp} {base : Nat → V}
variable {L : List Nat} {val : Nat → V} {gh : Nat → Nat} {R : Nat → Bool} {env : Env e} {H : Hp} {m : Mp} {w : World} {renv : List Value} {call : Cal} {A : List (Nat × Nat)}

theorem opD_other {op : Op} (h : kindO op = 3) : opD P e op = otherC P e op := by
  unfold opD
  split <;> first | (rename_i h2; rw [h] at h2; cases h2) | rfl

theorem LdSem.upd {env' : Env e} {o : Oper} {v : V} (h : LdSem P e env' o H v) (he : ∀ x ∈ o.op.operands.toList, ∀ t, x = .tmp t → t < e → lget (dpN e) env' t = lget (dpN e) env t) : LdSem P e env o H v := by
  obtain ⟨ob, wr, n, dp, d, hg, hl⟩ := h
  refine ⟨ob, wr, n, dp, d, hg, fun H2 m B w renv hg2 hH hr => hl H2 m B w renv hg2 hH fun x hx t ht hte => ?_⟩
  rw [he x hx t ht hte]
  exact hr x hx t ht hte

theorem okLd_sound (hA : AncT all A) {l : Nat} (h : okLd all A l = true) : ∃ o t a d, all[l]? = some o ∧ o.op = .load t (.tmp a) ∧ o.dst = some d ∧ a ≠ d ∧ (∀ j t', j < all.length → dstOf all j = some t' → (t' = a → Anc all l j) ∧ (t' = d → j = l)) ∧
    ∀ j want, o.guard = some (j, want) → ∃ g, dstOf all j = some g ∧ ∀ i, i < all.length → dstOf all i = some g → Anc all l i := by
  unfold okLd at h
  split at h
  · rename_i o ho
    rw [Bool.and_eq_true] at h
    obtain ⟨hG, h⟩ := h
    split at h
    · rename_i t a d hop hdst
      simp only [Bool.and_eq_true, Bool.not_eq_true', List.all_eq_true] at h
      refine ⟨o, t, a, d, ho, hop, hdst, fun e => (by rw [e, Nat.beq_refl] at h; cases h.1), fun j t' hj hd => ?_, fun j want hgd => ?_⟩
      · have h2 := h.2 j (List.mem_range.2 hj)
        rw [hd] at h2
        simp only [Bool.and_eq_true, Bool.or_eq_true, Bool.not_eq_true'] at h2
        refine ⟨fun e => ?_, fun e => ?_⟩
        · subst e
          rcases h2.1 with h3 | h3
          · rw [Nat.beq_refl] at h3; cases h3
          · exact hA _ _ h3
        · subst e
          rcases h2.2 with h3 | h3
          · rw [Nat.beq_refl] at h3; cases h3
          · exact Nat.eq_of_beq_eq_true h3
      · unfold okLdG at hG
        rw [hgd] at hG
        simp only at hG
        split at hG
        · rename_i g hg
          refine ⟨g, hg, fun i hi hdi => ?_⟩
          have h2 := List.all_eq_true.1 hG i (List.mem_range.2 hi)
          rw [hdi] at h2
          simp only [Bool.or_eq_true, Bool.not_eq_true'] at h2
          rcases h2 with h3 | h3
          · rw [Nat.beq_refl] at h3; cases h3
          · exact hA _ _ h3
        · cases hG
    · cases h
  · cases h

/-- A temporary that is written ahead of k alone is as it was. -/
theorem slot_again (I : Inv P e all w0 m0 H0 base L val gh R env H m w renv) {i : Nat} {o : Oper} {v : V} {env' : Env e} (hi : i ∉ L) (hlt : i < all.length) (ho : all[i]? = some o)
    (henv : ∀ t, t < e → lget (dpN e) env' t = if o.dst = some t then v else lget (dpN e) env t) {L1 L2 : List Nat} {k : Nat} {env_k : Env e} (hL : L = L1 ++ k :: L2)
    (henvk : ∀ t, t < e → lget (dpN e) env_k t = curA all val base L2 t) {a : Nat} (hte : a < e) (hw : ∀ j, j < all.length → dstOf all j = some a → Anc all k j) : lget (dpN e) env' a = lget (dpN e) env_k a := by
  have hlok := hL ▸ I.lok
  have hself := hlok.self
  have hkL : k ∈ L := by rw [hL]; simp
  have hno : ∀ j, j < all.length → dstOf all j = some a → j ∈ L2 := fun j hj hd => hlok.anc (hw j hj hd)
  rw [henv a hte, if_neg fun hh => hi (by rw [hL]; have := hno i hlt (by rw [dstOf_eq ho]; exact hh); simp [this]), I.envM a hte, henvk a hte, hL, curA]
  rw [cur_skip fun j hj _ hh => ?_, cur_miss fun _ hh => ?_]
  · have := hno k (I.lt k hkL) hh
    exact hself.1 this
  · have h1 := hno j (I.lt j (by rw [hL]; simp [hj])) hh
    obtain ⟨M1, M2, rfl⟩ := List.append_of_mem hj
    have h3 : LOk all (M1 ++ j :: (M2 ++ k :: L2)) := by simpa using hlok
    exact h3.self.1 (by simp [h1])

/-- A load that is looked at again goes on to be known. -/
theorem ld_again (I : Inv P e all w0 m0 H0 base L val gh R env H m w renv) (hA : AncT all A) {i : Nat} {o : Oper} {v : V} {env' : Env e} {H' : Hp} (hi : i ∉ L) (hlt : i < all.length) (ho : all[i]? = some o)
    (henv : ∀ t, t < e → lget (dpN e) env' t = if o.dst = some t then v else lget (dpN e) env t) {L1 L2 : List Nat} {k : Nat} {ok : Oper} {env_k : Env e} (hL : L = L1 ++ k :: L2) (hok : all[k]? = some ok)
    (henvk : ∀ t, t < e → lget (dpN e) env_k t = curA all val base L2 t) (hld : okLd all A k = true) {o' : Oper} {d' : Nat} (ho' : all[k]? = some o') (hd' : o'.dst = some d') (hde : d' < e) (h : LdSem P e env' o' H' (lget (dpN e) env' d')) : LdSem P e env_k ok H' (val k) := by
  obtain ⟨oo, t, a, d, hoo, hop, hdst, had, hw, _⟩ := okLd_sound hA hld
  have e1 : ok = oo := Option.some.inj (hok.symm.trans hoo)
  subst e1
  have e2 : ok = o' := Option.some.inj (hok.symm.trans ho')
  subst e2
  have e3 : d = d' := Option.some.inj (hdst.symm.trans hd')
  subst e3
  have hlok := hL ▸ I.lok
  have hself := hlok.self
  have hkL : k ∈ L := by rw [hL]; simp
  have hik : i ≠ k := fun e => hi (e ▸ hkL)
  -- the value
  have hv : lget (dpN e) env' d = val k := by
    rw [henv d hde, if_neg fun hh => hik ((hw i d hlt (by rw [dstOf_eq ho]; exact hh)).2 rfl), I.envM d hde, hL, curA]
    rw [cur_skip fun j hj _ hh => hself.2 (by
      have := (hw j d (I.lt j (by rw [hL]; simp [hj])) hh).2 rfl
      exact this ▸ hj), cur_hit rfl (by rw [dstOf_eq hok]; exact hdst)]
  rw [hv] at h
  refine h.upd fun x hx t' ht' hte => ?_
  have hxa : x = .tmp a := by rw [hop] at hx; simpa [Op.operands] using hx
  rw [hxa] at ht'
  cases ht'
  -- nobody has written the address since
  exact slot_again I hi hlt ho henv hL henvk hte fun j hj hd => (hw j a hj hd).1 rfl

/-- A guard that let a load run lets it run again. -/
theorem gd_again (I : Inv P e all w0 m0 H0 base L val gh R env H m w renv) (hA : AncT all A) {i : Nat} {o : Oper} {v : V} {env' : Env e} (hi : i ∉ L) (hlt : i < all.length) (ho : all[i]? = some o)
    (henv : ∀ t, t < e → lget (dpN e) env' t = if o.dst = some t then v else lget (dpN e) env t) {L1 L2 : List Nat} {k : Nat} {ok : Oper} {env_k : Env e} (hL : L = L1 ++ k :: L2) (hok : all[k]? = some ok)
    (henvk : ∀ t, t < e → lget (dpN e) env_k t = curA all val base L2 t) (hld : okLd all A k = true) (hr : GdRun all e env_k ok) (hs : GdSkip all e env' ok) : False := by
  obtain ⟨oo, t, a, d, hoo, hop, hdst, had, hw, hgd⟩ := okLd_sound hA hld
  have e1 : ok = oo := Option.some.inj (hok.symm.trans hoo)
  subst e1
  obtain ⟨j, want, g, h1, h2, h3, h4⟩ := hs
  obtain ⟨g', h5, h6⟩ := hgd j want h1
  have e2 : g = g' := Option.some.inj (h2.symm.trans h5)
  subst e2
  have h7 := slot_again I hi hlt ho henv hL henvk h3 h6
  rcases hr with hr | ⟨j', want', g', r1, r2, r3, r4⟩
  · rw [hr] at h1; cases h1
  · rw [h1] at r1
    cases r1
    have e3 : g = g' := Option.some.inj (h2.symm.trans r2)
    subst e3
    rw [h7, r4] at h4
    rcases h4 with h4 | ⟨b, h4, h8⟩
    · cases h4
    · cases h4
      exact h8 rfl

/-- A store or a call: M and the program together. -/
theorem both_wp {Q : Exit → Act → World → Prop} {Kc : Act → World → Prop} {K : Env e → Hp → Prop} (he : e ≤ 16384) (hT : TmpOk all) (hA : AncT all A) (hC : CallOk P w0 call) (I : Inv P e all w0 m0 H0 base L val gh R env H m w renv) {i : Nat} {o : Oper} {ch : List Nat} {l : List Step}
    (hi : i ∉ L) (hn : R i = false) (hlt : i < all.length) (hr : ∀ j ∈ depsI all i, R j = true) (ho : all[i]? = some o) (hk : kindO o.op = 3) (h : (stepsC P e all (⟨i, o, ch⟩ :: l)).go call env H K)
    (hch : ∀ k ∈ L, R k = false → kindI all k = 1 → k ∈ ch) (hld : ∀ k ∈ ch, okLd all A k = true)
    (hK : ∀ v env' H' m' w' renv', Inv P e all w0 m0 H0 base (i :: L) (updN val i v) gh (fun k => R k || k == i) env' H' m' w' renv' → (stepsC P e all l).go call env' H' K → Kc (act renv') w') : wpOp P all.toArray Q i Kc (act renv) w := by
  have hrd : ∀ t ∈ readsI all i, SlR m e env renv t := by
    intro t ht hte
    have hlok := I.lok.cons hi fun j hj => I.rl j (hr j hj)
    have h1 := cur_read (val := val) (base := base) (L1 := []) (L2 := L) hT hlok (fun j hj => by
      rcases List.mem_cons.1 hj with rfl | hj
      · exact hlt
      · exact I.lt j hj) I.closR hn hr ht
    rw [I.envM t hte, ← h1]
    show VR m (cur all val base R (i :: L) t) _
    rw [cur_miss fun h => by rw [hn] at h; cases h]
    exact I.slot t hte
  have hops := reads_ops ho hrd
  have fin : ∀ {v : V} {rv : Value} {m' : Mp} {H' : Hp} {w' : World}, Le m m' → VR m' v rv → St w0 m' w' H' → Gh m m' H H' → (putC e o.dst).go env v (fun env => (chkN P e all ch (stepsC P e all l).go).go call env H' K) → Kc (act (put renv o.dst rv)) w' := by
    intro v rv m' H' w' hle hv hS hG hp
    obtain ⟨env', h1, henv⟩ := putC_env he hp
    obtain ⟨h2, h3⟩ := chkN_sound h1
    refine hK v env' H' m' w' _ (I.both hi hlt hr ho henv hle hv hS hG fun L1 k L2 ok env_k hL hok hRk hk1 henvk hgr _ => ?_) h2
    have hkch := hch k (by rw [hL]; simp) hRk (by rw [kindI_eq hok]; exact hk1)
    obtain ⟨o', ho', ⟨d', hd', hde, hl⟩ | hs⟩ := h3 k hkch
    · exact ld_again I hA hi hlt ho henv hL hok henvk (hld k hkch) ho' hd' hde hl
    · have e2 : ok = o' := Option.some.inj (hok.symm.trans ho')
      subst e2
      exact (gd_again I hA hi hlt ho henv hL hok henvk (hld k hkch) hgr hs).elim
  unfold wpOp
  rw [List.getElem?_toArray, ho]
  simp only
  rcases then_cases (stepsC_cons h) with ⟨hg, h1⟩ | ⟨hg, h1⟩
  · rw [if_pos (run_wanted ho I.len hrd hg)]
    rw [opD_other hk] at h1
    refine .inl (does_wp (otherC_sound hC h1 I.st hops) fun rv w' hAf => ?_)
    obtain ⟨m', v, H', hle, hv, hS, hG, hp⟩ := hAf
    exact fin hle hv hS hG hp
  · rw [if_neg (by rw [skip_wanted ho I.len hrd hg]; simp), put_act]
    exact fin (Le.refl m) (show VR m (.c .un) undef from rfl) I.st (Gh.refl m H) h1

theorem blt_lt {a b : Nat} (h : Nat.blt a b = true) : a < b := Nat.le_of_ble_eq_true h

theorem okGo_cons {i : Nat} {ch : List Nat} {p : Plan} {E : Nat} (h : okGo all A ((i, ch) :: p) E = true) : has E i = false ∧ (∀ j ∈ depsI all i, has E j = true) ∧ i < all.length ∧
    (kindI all i = 3 → ∀ j, j < all.length → (has E j = true ∧ (kindI all j = 1 → has (ancsI A i) j = true ∨ j ∈ ch)) ∨ j = i ∨ has (ancsI A j) i = true) ∧ okGo all A p (add E i) = true := by
  unfold okGo at h
  rw [fNat_eq] at h
  simp only [Bool.and_eq_true, rdyI, Bool.not_eq_true', List.all_eq_true] at h
  obtain ⟨⟨h1, h2⟩, h3, h4, h5⟩ := h
  refine ⟨h1, h2, blt_lt h3, fun hk j hj => ?_, h5⟩
  rw [hk] at h4
  simp only [Nat.beq_refl, Bool.not_true, Bool.false_or, List.all_eq_true] at h4
  have h6 := h4 j (List.mem_range.2 hj)
  simp only [Bool.or_eq_true, Bool.and_eq_true, Bool.not_eq_true'] at h6
  rcases h6 with (⟨h7, h8⟩ | h7) | h7
  · refine .inl ⟨h7, fun hk1 => ?_⟩
    rcases h8 with (h8 | h8) | h8
    · rw [hk1] at h8; cases h8
    · exact .inl h8
    · exact .inr ((inL_iff _ _).1 h8)
  · exact .inr (.inl (Nat.eq_of_beq_eq_true h7))
  · exact .inr (.inr h7)

theorem stepsOf_cons {i : Nat} {ch : List Nat} {p : Plan} {o : Oper} (ho : all[i]? = some o) : stepsOf all ((i, ch) :: p) = ⟨i, o, ch⟩ :: stepsOf all p := by
  unfold stepsOf
  rw [List.filterMap_cons]
  simp [ho]

theorem get_lt {i : Nat} (h : i < all.length) : ∃ o, all[i]? = some o := ⟨_, List.getElem?_eq_getElem h⟩

/-- M goes ahead until the operation that is ready is done, or is the next. -/
theorem advance (he : e ≤ 16384) (hA : AncT all A) {K : Env e → Hp → Prop} {i : Nat} (hlt : i < all.length) : ∀ (rem : Plan) {E : Nat} {L : List Nat} {val : Nat → V} {gh : Nat → Nat} {env : Env e} {H : Hp},
    Inv P e all w0 m0 H0 base L val gh R env H m w renv → (∀ j, has E j = true ↔ j ∈ L) → okGo all A rem E = true → (∀ x ∈ rem, ∀ l ∈ x.2, okLd all A l = true) → (stepsC P e all (stepsOf all rem)).go call env H K → i ∉ L → (∀ j ∈ depsI all i, R j = true) →
    ∃ (rem' : Plan) (E' : Nat) (L' : List Nat) (val' : Nat → V) (gh' : Nat → Nat) (env' : Env e) (H' : Hp), Inv P e all w0 m0 H0 base L' val' gh' R env' H' m w renv ∧ (∀ j, has E' j = true ↔ j ∈ L') ∧ okGo all A rem' E' = true ∧ (∀ x ∈ rem', ∀ l ∈ x.2, okLd all A l = true) ∧ (stepsC P e all (stepsOf all rem')).go call env' H' K ∧
      (i ∈ L' ∨ (i ∉ L' ∧ kindI all i = 3 ∧ ∃ ch p, rem' = (i, ch) :: p))
  | [], E, L, val, gh, env, H, I, hE, hok, hld, h, hi, hr => by
    unfold okGo at hok
    rw [List.all_eq_true] at hok
    exact absurd ((hE i).1 (hok i (List.mem_range.2 hlt))) hi
  | (k, ch) :: p, E, L, val, gh, env, H, I, hE, hok, hld, h, hi, hr => by
    obtain ⟨h1, h2, h3, h4, h5⟩ := okGo_cons hok
    obtain ⟨o, ho⟩ := get_lt h3
    by_cases hk3 : kindI all k = 3
    · by_cases hki : k = i
      · subst hki
        exact ⟨_, E, L, val, gh, env, H, I, hE, hok, hld, h, .inr ⟨hi, hk3, ch, p, rfl⟩⟩
      · exfalso
        rcases h4 hk3 i hlt with ⟨h6, _⟩ | h6 | h6
        · exact hi ((hE i).1 h6)
        · exact hki h6.symm
        · have hRk := (hA _ _ h6).ready (R := fun k => R k = true) I.closR hr
          have := (hE k).2 (I.rl k hRk)
          rw [h1] at this; cases this
    · rw [stepsOf_cons ho] at h
      have hkL : k ∉ L := fun hh => by have := (hE k).2 hh; rw [h1] at this; cases this
      obtain ⟨v, g, env', H', h6, h7, h8, h9, h10⟩ := step_ahead he I.st.hr I.gh0 (s := ⟨k, o, ch⟩) (by rw [← kindI_eq ho]; exact hk3) h
      have I' := I.ahead hkL h3 (fun j hj => (hE j).1 (h2 j hj)) ho h7 h8 h9 h10
      have hE' : ∀ j, has (add E k) j = true ↔ j ∈ k :: L := fun j => by
        rw [has_add, Bool.or_eq_true, decide_eq_true_eq, List.mem_cons, hE j]
        exact or_comm
      by_cases hki : k = i
      · subst hki
        exact ⟨p, _, _, _, _, _, _, I', hE', h5, fun x hx => hld x (List.mem_cons_of_mem _ hx), h6, .inl (by simp)⟩
      · exact advance he hA hlt p I' hE' h5 (fun x hx => hld x (List.mem_cons_of_mem _ hx)) h6 (fun hh => by
          rcases List.mem_cons.1 hh with h | h
          · exact hki h.symm
          · exact hi h) hr
end
end Go.Mx

/-! ## Mp18 -/
set_option linter.unusedVariables false
namespace Go.Mx
open Go.Eng

section
variable {P : Program} {e : Nat} {all : List Oper} {w0 : Bs} {m0 : Mp} {H0 : Hp} {base : Nat → V}
variable {L : List Nat} {val : Nat → V} {gh : Nat → Nat} {R : Nat → Bool} {env : Env e} {H : Hp} {m : Mp} {w : World} {renv : List Value} {call : Cal} {A : List (Nat × Nat)}

theorem first_late : ∀ {L : List Nat}, (∃ k ∈ L, R k = false) → ∃ L1 i L2, L = L1 ++ i :: L2 ∧ R i = false ∧ ∀ j ∈ L2, R j = true
  | [], ⟨k, hk, _⟩ => by cases hk
  | x :: L, ⟨k, hk, hR⟩ => by
    by_cases h : ∃ k ∈ L, R k = false
    · obtain ⟨L1, i, L2, h1, h2, h3⟩ := first_late h
      exact ⟨x :: L1, i, L2, by rw [h1]; rfl, h2, h3⟩
    · have hx : R x = false := by
        rcases List.mem_cons.1 hk with e | hk
        · rw [← e]; exact hR
        · exact absurd ⟨k, hk, hR⟩ h
      refine ⟨[], x, L, rfl, hx, fun j hj => ?_⟩
      cases hj2 : R j with
      | true => rfl
      | false => exact absurd ⟨j, hj, hj2⟩ h

/-- While something is left, something is ready. -/
theorem some_ready {rem : Plan} {E : Nat} (I : Inv P e all w0 m0 H0 base L val gh R env H m w renv) (hE : ∀ j, has E j = true ↔ j ∈ L) (hok : okGo all A rem E = true) (h : ∃ k, k < all.length ∧ R k = false) : ∃ i, i < all.length ∧ R i = false ∧ ∀ j ∈ depsI all i, R j = true := by
  by_cases hl : ∃ k ∈ L, R k = false
  · obtain ⟨L1, i, L2, h1, h2, h3⟩ := first_late hl
    exact ⟨i, I.lt i (by rw [h1]; simp), h2, fun j hj => h3 j ((I.lok L1 i L2 h1).2 j hj)⟩
  · have hall : ∀ k ∈ L, R k = true := fun k hk => by
      cases hj : R k with
      | true => rfl
      | false => exact absurd ⟨k, hk, hj⟩ hl
    obtain ⟨k, hk, hRk⟩ := h
    have hkL : k ∉ L := fun hh => by rw [hall k hh] at hRk; cases hRk
    cases rem with
    | nil =>
      unfold okGo at hok
      rw [List.all_eq_true] at hok
      exact absurd ((hE k).1 (hok k (List.mem_range.2 hk))) hkL
    | cons x p =>
      obtain ⟨i, ch⟩ := x
      obtain ⟨h1, h2, h3, _, _⟩ := okGo_cons hok
      refine ⟨i, h3, ?_, fun j hj => hall j ((hE j).1 (h2 j hj))⟩
      cases hj : R i with
      | false => rfl
      | true =>
        have := (hE i).2 (I.rl i hj)
        rw [h1] at this; cases this

/-- All is done. -/
theorem all_done {rem : Plan} {E : Nat} {K : Env e → Hp → Prop} (I : Inv P e all w0 m0 H0 base L val gh R env H m w renv) (hE : ∀ j, has E j = true ↔ j ∈ L) (hok : okGo all A rem E = true) (h : (stepsC P e all (stepsOf all rem)).go call env H K) (hR : ∀ k, k < all.length → R k = true) : Bh w0 m0 H0 K renv w := by
  cases rem with
  | nil =>
    refine ⟨m, env, H, I.le0, I.st, ⟨I.len, fun t ht => ?_⟩, I.gh0, h⟩
    have := I.slot t ht
    rw [I.envM t ht, curA, ← cur_congr (R := R) (fun j hj => hR j (I.lt j hj)) fun _ _ => rfl]
    exact this
  | cons x p =>
    obtain ⟨i, ch⟩ := x
    obtain ⟨h1, h2, h3, _, _⟩ := okGo_cons hok
    have := (hE i).2 (I.rl i (hR i h3))
    rw [h1] at this; cases this

theorem listed_get {listed : Array Bool} (hs : listed.size = all.length) {k : Nat} (hk : k < all.length) : listed.getD k true = listed.getD k false := by
  simp [Array.getD_eq_getD_getElem?, Array.getElem?_eq_getElem (show k < listed.size by omega)]

theorem mem_deps {i j : Nat} {o : Oper} (ho : all[i]? = some o) : j ∈ depsI all i ↔ ∃ x ∈ o.after, Region.binds .any x = true ∧ x.on = j := by
  unfold depsI depsO
  rw [ho]
  simp only [List.mem_map, List.mem_filter, Array.mem_toList_iff]
  constructor
  · rintro ⟨x, ⟨h1, h2⟩, h3⟩; exact ⟨x, h1, h2, h3⟩
  · rintro ⟨x, h1, h2, h3⟩; exact ⟨x, ⟨h1, h2⟩, h3⟩

theorem ready_iff {listed : Array Bool} (hs : listed.size = all.length) {i : Nat} : i ∈ Region.ready .any all.toArray listed ↔ i < all.length ∧ listed.getD i false = false ∧ ∀ j ∈ depsI all i, listed.getD j false = true := by
  rw [mem_ready]
  constructor
  · rintro ⟨h1, o, h2, h3⟩
    have h2 : all[i]? = some o := by simpa using h2
    have hi : i < all.length := by
      rcases Nat.lt_or_ge i all.length with h | h
      · exact h
      · rw [List.getElem?_eq_none h] at h2; cases h2
    refine ⟨hi, by rw [← listed_get hs hi]; exact h1, fun j hj => ?_⟩
    obtain ⟨x, hx, hb, rfl⟩ := (mem_deps h2).1 hj
    exact h3 x hx hb
  · rintro ⟨h1, h2, h3⟩
    obtain ⟨o, ho⟩ := get_lt h1
    exact ⟨by rw [listed_get hs h1]; exact h2, o, by simpa using ho, fun x hx hb => h3 _ ((mem_deps ho).2 ⟨x, hx, hb, rfl⟩)⟩

theorem set_get {listed : Array Bool} (hs : listed.size = all.length) {i : Nat} (hi : i < all.length) : (fun k => (listed.setIfInBounds i true).getD k false) = fun k => listed.getD k false || k == i := by
  funext k
  by_cases hk : k = i
  · subst hk
    simp [Array.getD_eq_getD_getElem?, show k < listed.size by omega]
  · have : i ≠ k := fun e => hk e.symm
    simp [Array.getD_eq_getD_getElem?, this, hk]

theorem count_set {listed : Array Bool} {i : Nat} {n : Nat} (hi : i < listed.size) (hf : listed.getD i false = false) (hc : listed.toList.count false = n + 1) : (listed.setIfInBounds i true).toList.count false = n := by
  have h1 : listed.toList[i]'(by simpa using hi) = false := by
    simpa [Array.getD_eq_getD_getElem?, Array.getElem?_eq_getElem hi] using hf
  rw [Array.toList_setIfInBounds, List.count_set (by simpa using hi), hc, h1]
  simp

theorem all_of_count {listed : Array Bool} (hs : listed.size = all.length) (hc : listed.toList.count false = 0) : ∀ k, k < all.length → listed.getD k false = true := by
  intro k hk
  have h1 : k < listed.size := by omega
  rw [Array.getD_eq_getD_getElem?, Array.getElem?_eq_getElem h1, Option.getD_some]
  cases h2 : listed[k] with
  | true => rfl
  | false =>
    exfalso
    rw [List.count_eq_zero] at hc
    exact hc (by rw [← h2]; simp)

theorem draw_main {Q : Exit → Act → World → Prop} {K : Env e → Hp → Prop} (he : e ≤ 16384) (hT : TmpOk all) (hA : AncT all A) (hC : CallOk P w0 call) (hQ : ∀ renv' w', Bh w0 m0 H0 K renv' w' → Q .normal (act renv') w') :
    ∀ (fuel : Nat) (listed : Array Bool) (rem : Plan) (E : Nat) (L : List Nat) (val : Nat → V) (gh : Nat → Nat) (env : Env e) (H : Hp) (m : Mp) (w : World) (renv : List Value),
    Inv P e all w0 m0 H0 base L val gh (fun k => listed.getD k false) env H m w renv → (∀ j, has E j = true ↔ j ∈ L) → okGo all A rem E = true → (∀ x ∈ rem, ∀ l ∈ x.2, okLd all A l = true) → (stepsC P e all (stepsOf all rem)).go call env H K →
    listed.size = all.length → listed.toList.count false = fuel → wpAny P .any all.toArray Q fuel listed (act renv) w
  | 0, listed, rem, E, L, val, gh, env, H, m, w, renv, I, hE, hok, hld, h, hs, hc => by
    have hall := all_of_count hs hc
    refine ⟨?_, hQ _ _ (all_done I hE hok h hall)⟩
    cases hr : Region.ready .any all.toArray listed with
    | nil => rfl
    | cons i l =>
      obtain ⟨h1, h2, _⟩ := (ready_iff hs).1 (show i ∈ Region.ready .any all.toArray listed by rw [hr]; simp)
      rw [hall i h1] at h2; cases h2
  | fuel + 1, listed, rem, E, L, val, gh, env, H, m, w, renv, I, hE, hok, hld, h, hs, hc => by
    refine ⟨fun hr => ?_, fun i hi => ?_⟩
    · refine hQ _ _ (all_done I hE hok h fun k hk => ?_)
      cases hR : listed.getD k false with
      | true => rfl
      | false =>
        exfalso
        obtain ⟨i, h1, h2, h3⟩ := some_ready I hE hok ⟨k, hk, hR⟩
        have := (ready_iff hs).2 ⟨h1, h2, h3⟩
        rw [hr] at this; cases this
    · obtain ⟨h1, h2, h3⟩ := (ready_iff hs).1 hi
      have hset := set_get (listed := listed) hs h1
      have hsz : (listed.setIfInBounds i true).size = all.length := by simpa using hs
      have hcnt := count_set (by omega) h2 hc
      -- M goes ahead
      obtain ⟨rem', E', L', val', gh', env', H', I', hE', hok', hld', h', hcase⟩ : ∃ (rem' : Plan) (E' : Nat) (L' : List Nat) (val' : Nat → V) (gh' : Nat → Nat) (env' : Env e) (H' : Hp), Inv P e all w0 m0 H0 base L' val' gh' (fun k => listed.getD k false) env' H' m w renv ∧ (∀ j, has E' j = true ↔ j ∈ L') ∧ okGo all A rem' E' = true ∧ (∀ x ∈ rem', ∀ l ∈ x.2, okLd all A l = true) ∧ (stepsC P e all (stepsOf all rem')).go call env' H' K ∧
          (i ∈ L' ∨ (i ∉ L' ∧ kindI all i = 3 ∧ ∃ ch p, rem' = (i, ch) :: p)) := by
        by_cases hiL : i ∈ L
        · exact ⟨rem, E, L, val, gh, env, H, I, hE, hok, hld, h, .inl hiL⟩
        · exact advance he hA h1 rem I hE hok hld h hiL h3
      rcases hcase with hiL | ⟨hiL, hk3, ch, p, rfl⟩
      · refine I'.replay hT hiL h2 h3 fun m2 w2 renv2 I2 => ?_
        exact draw_main he hT hA hC hQ fuel _ rem' E' L' val' gh' env' H' m2 w2 renv2 (by rw [hset]; exact I2) hE' hok' hld' h' hsz hcnt
      · obtain ⟨o, ho⟩ := get_lt h1
        rw [stepsOf_cons ho] at h'
        obtain ⟨q1, q2, q3, q4, q5⟩ := okGo_cons hok'
        refine both_wp he hT hA hC I' hiL h2 h1 h3 ho (by rw [← kindI_eq ho]; exact hk3) h' (fun k hk hRk hk1 => ?_) (hld' (i, ch) (by simp)) fun v env2 H2 m2 w2 renv2 I2 hn => ?_
        · rcases q4 hk3 k (I'.lt k hk) with ⟨_, h6⟩ | h6 | h6
          · rcases h6 hk1 with h7 | h7
            · have := (hA _ _ h7).ready (R := fun k => listed.getD k false = true) I'.closR h3
              rw [hRk] at this; cases this
            · exact h7
          · exact absurd (h6 ▸ hk) hiL
          · exfalso
            have := (hA _ _ h6).closed (R := fun k => k ∈ L') I'.lok.closed hk
            exact hiL this
        · have hE2 : ∀ j, has (add E' i) j = true ↔ j ∈ i :: L' := fun j => by
            rw [has_add, Bool.or_eq_true, decide_eq_true_eq, List.mem_cons, hE' j]
            exact or_comm
          exact draw_main he hT hA hC hQ fuel _ p (add E' i) (i :: L') _ gh' env2 H2 m2 w2 renv2 (by rw [hset]; exact I2) hE2 q5 (fun x hx => hld' x (List.mem_cons_of_mem _ hx)) hn hsz hcnt

theorem HR.keepN {B : Bs} {w w' : World} (h : HR m B w H) (hn : New w w') : HR m B w' H :=
  ⟨Nat.le_trans h.size hn.size, h.lim, h.unm, h.dead, fun o b N hm => ⟨(h.blk o b N hm).1, (h.blk o b N hm).2.keep hn (fun _ _ h => h.elim) (fun _ h => h.elim) (Le.refl m) rfl⟩, fun o wr n dp d b N hg hm => by
    obtain ⟨cs, T, h1, h2⟩ := h.ob o wr n dp d b N hg hm
    exact ⟨cs, T, hn.blk h1, h2⟩, h.inj⟩

/-- **Regions whose operations may come in any order do what the semantics says.** -/
theorem draw_any {e : Nat} (he : e ≤ 16384) {Z : Plans} {id : Nat} {ops : Array Oper} {w0 : Bs} {call : Cal} {env : Env e} {H : Hp} {K : Env e → Hp → Prop} {renv : List Value} {w : World} {m : Mp} {Q : Exit → Act → World → Prop}
    (hok : okPlan ops.toList (planOf Z id ops.toList.length) = true) (hC : CallOk P w0 call) (h : (drawC P e Z id ops.toList).go call env H K) (hS : St w0 m w H) (hE : ER m e env renv) (hQ : ∀ renv' w', Bh w0 m H K renv' w' → Q .normal (act renv') w') :
    wpAny P .any ops Q ops.size (Array.replicate ops.size false) (act renv) { w with drawn := w.drawn + 1 } := by
  unfold okPlan at hok
  simp only [Bool.and_eq_true, List.all_eq_true] at hok
  obtain ⟨h1, h2, h3, _⟩ := hok
  have hA : AncT ops.toList (ancs ops.toList ((planOf Z id ops.toList.length).map (·.1)) []) := ancs_nil _
  have hT := okTmp_sound hA h2
  have hS' : St w0 m w.drew H := ⟨hS.hr.keepN (new_drew w), hS.new.trans (new_drew w) fun _ _ hf => hf.elim⟩
  have hfalse : ∀ k, (Array.replicate ops.size false).getD k false = false := fun k => by
    rw [Array.getD_eq_getD_getElem?, Array.getElem?_replicate]
    split <;> rfl
  have key := draw_main (P := P) (all := ops.toList) (base := fun t => lget (dpN e) env t) (m0 := m) (H0 := H) (Q := Q) (K := K) he hT hA hC hQ ops.size (Array.replicate ops.size false) (planOf Z id ops.toList.length) 0 [] (fun _ => .c .un) (fun _ => 0) env H m w.drew renv
    { st := hS', le0 := Le.refl m, gh0 := Gh.refl m H, envM := fun _ _ => rfl, len := hE.len, slot := fun t ht => hE.slot t ht, lok := fun L1 i L2 e => (by cases L1 <;> cases e), lt := fun j hj => (by cases hj),
      rl := fun i hi => (by rw [hfalse] at hi; cases hi), closR := fun k hk => (by rw [hfalse] at hk; cases hk), cert := fun L1 i L2 e => (by cases L1 <;> cases e), ghd := fun i j hi => (by cases hi), ghs := fun i hi => (by cases hi) }
    (fun j => by rw [has_zero]; simp) h1 (fun x hx l hl => h3 x hx l hl) h (by simp) (by simp)
  simpa using key

theorem draw_ok (hm : P.follows .mixedOrders = true) : DrawOk P := fun e he Z id ops w0 call env H K renv w m Q hok hC h hS hE hQ => wp_region_any hm (draw_any he hok hC h hS hE hQ)
end
end Go.Mx

/-! ## Mp19 -/
set_option linter.unusedVariables false
namespace Go.Mx
open Go.Eng

/-- Only the functions of a list are run by their code, those of a table by their summaries, others not at all. -/
def onlyF (l : List Nat) (S : Sm) : Sm := fun f => match S f with
  | some g => some g
  | none => match inL l f with
    | true => none
    | false => some fun _ _ _ => False

noncomputable def okF (P : Program) (Z : FuncId → Plans) (f : FuncId) : Bool := match P.funcs[f]? with
  | some fn => match fn.body with
    | some c => okCode (Z f) c
    | none => true
  | none => true

section
variable {P : Program} {w : World}

theorem onlyF_sum {w : Bs} {l : List Nat} {S : Sm} (hS : ∀ f g, S f = some g → SumOk P w f g) : ∀ f g, onlyF l S f = some g → SumOk P w f g := by
  intro f g h
  unfold onlyF at h
  split at h
  · rename_i g' hg
    cases h
    exact hS f _ hg
  · split at h
    · cases h
    · cases h
      intro args vals m w H K hk
      exact hk.elim

theorem onlyF_ok {l : List Nat} {S : Sm} {Z : FuncId → Plans} (h : l.all (okF P Z) = true) : ∀ f fn c, onlyF l S f = none → P.funcs[f]? = some fn → fn.body = some c → okCode (Z f) c = true := by
  intro f fn c hn hf hc
  unfold onlyF at hn
  split at hn
  · cases hn
  · split at hn
    · rename_i hin
      have h1 := List.all_eq_true.1 h f ((inL_iff _ _).1 hin)
      unfold okF at h1
      rw [hf] at h1
      simp only [hc] at h1
      exact h1
    · cases hn

/-- **A closed run that ends with true.** -/
theorem run_true (hm : P.follows .mixedOrders = true) {l : List Nat} {S : Sm} {Z : FuncId → Plans} (hS : ∀ f g, S f = some g → SumOk P ⟨w, fun _ => False⟩ f g) (hl : l.all (okF P Z) = true) {fuel f : Nat} (hk : callK P (onlyF l S) Z fuel f [] hp0 (fun v _ => onB v True False) = True) :
    Calls P f #[] w fun e w' => ∃ v, e = .returned v ∧ v = .bool true ∧ New w w' := by
  refine (callK_sound (draw_ok hm) (onlyF_sum hS) (onlyF_ok hl) fuel f [] [] _ w hp0 _ (of_eq_true hk) (St.first w) trivial).mono ?_
  rintro e w' ⟨v, he, m', v', H', _, hv, hS', _, hR⟩
  obtain ⟨b, rfl, hb⟩ := onB_iff hR
  rcases hb with ⟨rfl, _⟩ | ⟨_, hf⟩
  · exact ⟨v, he, hv, hS'.new⟩
  · exact hf.elim
end
end Go.Mx
