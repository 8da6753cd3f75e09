/- Regions in any order: sets of numbers, what waits for what, the values of the slots. -/
import Derived.Test.YtihfgcmmljnhnaaGreatMp12
set_option linter.unusedVariables false
namespace Go.Mx
open Go.Eng

theorem has_eq (m i : Nat) : has m i = m.testBit i := by
  rw [Nat.testBit_eq_decide_div_mod_eq]
  unfold has
  have h1 : Nat.land (Nat.shiftRight m i) 1 = m / 2 ^ i % 2 := by
    show (m >>> i) &&& 1 = _
    rw [Nat.and_one_is_mod, Nat.shiftRight_eq_div_pow]
  rw [h1]
  by_cases h : m / 2 ^ i % 2 = 1
  · rw [h]; rfl
  · rw [decide_eq_false h]
    cases hb : Nat.beq (m / 2 ^ i % 2) 1 with
    | true => exact absurd (Nat.eq_of_beq_eq_true hb) h
    | false => rfl

theorem has_bit (i j : Nat) : has (Nat.shiftLeft 1 i) j = decide (j = i) := by
  rw [has_eq]
  show (1 <<< i).testBit j = _
  rw [Nat.testBit_shiftLeft]
  by_cases h : j = i
  · subst h; simp
  · rw [decide_eq_false h]
    by_cases hle : i ≤ j
    · have : j - i ≠ 0 := by omega
      have h2 : Nat.testBit 1 (j - i) = false := by
        rw [Nat.testBit_eq_decide_div_mod_eq]
        have : 1 / 2 ^ (j - i) = 0 := Nat.div_eq_of_lt (Nat.one_lt_two_pow this)
        simp [this]
      simp [h2]
    · simp [hle]

theorem has_or (a b j : Nat) : has (Nat.lor a b) j = (has a j || has b j) := by
  rw [has_eq, has_eq, has_eq]
  exact Nat.testBit_or a b j

theorem has_zero (j : Nat) : has 0 j = false := by rw [has_eq]; exact Nat.zero_testBit j

theorem has_add (m i j : Nat) : has (add m i) j = (has m j || decide (j = i)) := by unfold add; rw [has_or, has_bit]

theorem inL_iff : ∀ (l : List Nat) (i : Nat), inL l i = true ↔ i ∈ l
  | [], i => by simp [inL]
  | x :: l, i => by
    simp only [inL, Bool.or_eq_true, List.mem_cons, inL_iff l i]
    refine or_congr ⟨fun h => (Nat.eq_of_beq_eq_true h).symm, fun h => ?_⟩ Iff.rfl
    subst h
    exact Nat.beq_refl _

/-- Operation i waits for j, perhaps by others. -/
inductive Anc (all : List Oper) : Nat → Nat → Prop
  | base {i j : Nat} : j ∈ depsI all i → Anc all i j
  | step {i k j : Nat} : k ∈ depsI all i → Anc all k j → Anc all i j

theorem Anc.closed {all : List Oper} {R : Nat → Prop} (h : ∀ i, R i → ∀ j ∈ depsI all i, R j) {i j : Nat} (ha : Anc all i j) : R i → R j := by
  induction ha with
  | base hj => exact fun hi => h _ hi _ hj
  | step hk _ ih => exact fun hi => ih (h _ hi _ hk)

theorem Anc.ready {all : List Oper} {R : Nat → Prop} (h : ∀ i, R i → ∀ j ∈ depsI all i, R j) {i j : Nat} (hi : ∀ k ∈ depsI all i, R k) (ha : Anc all i j) : R j := by
  cases ha with
  | base hj => exact hi _ hj
  | step hk h2 => exact h2.closed h (hi _ hk)

/-- A table tells only what is. -/
def AncT (all : List Oper) (A : List (Nat × Nat)) : Prop := ∀ i j, has (ancsI A i) j = true → Anc all i j

theorem ancOf_has {A : List (Nat × Nat)} : ∀ {l : List Nat} {j : Nat}, has (ancOf A l) j = true → ∃ k ∈ l, j = k ∨ has (ancsI A k) j = true
  | [], j, h => by rw [show ancOf A [] = 0 from rfl, has_zero] at h; cases h
  | k :: l, j, h => by
    rw [show ancOf A (k :: l) = Nat.lor (Nat.lor (Nat.shiftLeft 1 k) (ancsI A k)) (ancOf A l) from rfl, has_or, has_or, has_bit] at h
    simp only [Bool.or_eq_true, decide_eq_true_eq] at h
    rcases h with (h | h) | h
    · exact ⟨k, by simp, .inl h⟩
    · exact ⟨k, by simp, .inr h⟩
    · obtain ⟨k', hk, h'⟩ := ancOf_has h
      exact ⟨k', by simp [hk], h'⟩

theorem ancs_ok {all : List Oper} : ∀ (l : List Nat) (A : List (Nat × Nat)), AncT all A → AncT all (ancs all l A)
  | [], A, h => h
  | i :: l, A, h => by
    unfold ancs
    rw [fNat_eq]
    refine ancs_ok l _ fun k j hk => ?_
    rw [show ancsI ((i, ancOf A (depsI all i)) :: A) k = @Bool.rec (fun _ => Nat) (ancsI A k) (ancOf A (depsI all i)) (Nat.beq i k) from rfl] at hk
    cases hb : Nat.beq i k with
    | true =>
      have hb := Nat.eq_of_beq_eq_true hb
      subst hb
      rw [Nat.beq_refl] at hk
      obtain ⟨k', hk', h'⟩ := ancOf_has hk
      rcases h' with rfl | h'
      · exact .base hk'
      · exact .step hk' (h _ _ h')
    | false =>
      rw [hb] at hk
      exact h _ _ hk

theorem ancs_nil {all : List Oper} (l : List Nat) : AncT all (ancs all l []) := ancs_ok l [] fun i j h => by
  rw [show ancsI [] i = 0 from rfl, has_zero] at h
  cases h

/-! ### The slots -/

/-- The latest value of a slot, of operations of a set. -/
noncomputable def cur (all : List Oper) (val : Nat → V) (base : Nat → V) (R : Nat → Bool) : List Nat → Nat → V
  | [], t => base t
  | i :: L, t => if R i = true ∧ dstOf all i = some t then val i else cur all val base R L t

noncomputable abbrev curA (all : List Oper) (val : Nat → V) (base : Nat → V) : List Nat → Nat → V := cur all val base fun _ => true

section
variable {all : List Oper} {val : Nat → V} {base : Nat → V} {R : Nat → Bool}

/-- Nothing of the set writes the slot. -/
theorem cur_skip {t : Nat} : ∀ {L1 L2 : List Nat}, (∀ j ∈ L1, R j = true → dstOf all j ≠ some t) → cur all val base R (L1 ++ L2) t = cur all val base R L2 t
  | [], L2, _ => rfl
  | i :: L1, L2, h => by
    rw [List.cons_append]
    conv => lhs; unfold cur
    rw [if_neg fun hh => h i (by simp) hh.1 hh.2]
    exact cur_skip (L1 := L1) fun j hj => h j (List.mem_cons_of_mem _ hj)

theorem cur_none {t : Nat} {L : List Nat} (h : ∀ j ∈ L, R j = true → dstOf all j ≠ some t) : cur all val base R L t = base t := by
  have := cur_skip (val := val) (base := base) (L1 := L) (L2 := []) h
  rw [List.append_nil] at this
  exact this

theorem cur_hit {t i : Nat} {L2 : List Nat} (hi : R i = true) (ht : dstOf all i = some t) : cur all val base R (i :: L2) t = val i := by
  unfold cur
  rw [if_pos ⟨hi, ht⟩]

theorem cur_miss {t i : Nat} {L2 : List Nat} (h : R i = true → dstOf all i ≠ some t) : cur all val base R (i :: L2) t = cur all val base R L2 t := by
  conv => lhs; unfold cur
  rw [if_neg fun hh => h hh.1 hh.2]

theorem cur_congr {val' : Nat → V} {R' : Nat → Bool} {t : Nat} : ∀ {L : List Nat}, (∀ j ∈ L, R j = R' j) → (∀ j ∈ L, val j = val' j) → cur all val base R L t = cur all val' base R' L t
  | [], _, _ => rfl
  | i :: L, h, h' => by
    unfold cur
    rw [h i (by simp), h' i (by simp), cur_congr (fun j hj => h j (by simp [hj])) fun j hj => h' j (by simp [hj])]

/-- Either some operation of the list is the latest that writes the slot, or none does. -/
theorem last_or (all : List Oper) (R : Nat → Bool) (t : Nat) : ∀ (L : List Nat), (∀ j ∈ L, R j = true → dstOf all j ≠ some t) ∨ ∃ L1 i L2, L = L1 ++ i :: L2 ∧ R i = true ∧ dstOf all i = some t ∧ ∀ j ∈ L1, R j = true → dstOf all j ≠ some t
  | [] => .inl fun j hj => by cases hj
  | i :: L => by
    by_cases h : R i = true ∧ dstOf all i = some t
    · exact .inr ⟨[], i, L, rfl, h.1, h.2, fun j hj => by cases hj⟩
    · rcases last_or all R t L with h1 | ⟨L1, k, L2, rfl, h2, h3, h4⟩
      · refine .inl fun j hj hR hd => ?_
        rcases List.mem_cons.1 hj with rfl | hj
        · exact h ⟨hR, hd⟩
        · exact h1 j hj hR hd
      · refine .inr ⟨i :: L1, k, L2, rfl, h2, h3, fun j hj hR hd => ?_⟩
        rcases List.mem_cons.1 hj with rfl | hj
        · exact h ⟨hR, hd⟩
        · exact h4 j hj hR hd

/-- M's list: each operation once, behind all that it waits for. -/
def LOk (all : List Oper) (L : List Nat) : Prop := ∀ L1 i L2, L = L1 ++ i :: L2 → i ∉ L2 ∧ ∀ j ∈ depsI all i, j ∈ L2

theorem LOk.tail {i : Nat} {L : List Nat} (h : LOk all (i :: L)) : LOk all L := fun L1 k L2 e => h (i :: L1) k L2 (by rw [e]; rfl)
theorem LOk.suffix {L1 L2 : List Nat} (h : LOk all (L1 ++ L2)) : LOk all L2 := fun M1 k M2 e => h (L1 ++ M1) k M2 (by rw [e, List.append_assoc])
theorem LOk.cons {i : Nat} {L : List Nat} (h : LOk all L) (hi : i ∉ L) (hd : ∀ j ∈ depsI all i, j ∈ L) : LOk all (i :: L) := by
  intro L1 k L2 e
  cases L1 with
  | nil =>
    simp only [List.nil_append, List.cons.injEq] at e
    obtain ⟨rfl, rfl⟩ := e
    exact ⟨hi, hd⟩
  | cons x L1 =>
    simp only [List.cons_append, List.cons.injEq] at e
    exact h L1 k L2 e.2

theorem LOk.closed {L : List Nat} (h : LOk all L) : ∀ i, i ∈ L → ∀ j ∈ depsI all i, j ∈ L := by
  intro i hi j hj
  obtain ⟨L1, L2, rfl⟩ := List.append_of_mem hi
  have := (h L1 i L2 rfl).2 j hj
  simp [this]

/-- What an operation waits for lies before it. -/
theorem LOk.anc {L1 L2 : List Nat} {i j : Nat} (h : LOk all (L1 ++ i :: L2)) (ha : Anc all i j) : j ∈ L2 := by
  have h2 : LOk all L2 := (h.suffix (L1 := L1)).tail
  exact ha.ready (R := fun k => k ∈ L2) h2.closed (h L1 i L2 rfl).2

theorem LOk.self {L1 L2 : List Nat} {i : Nat} (h : LOk all (L1 ++ i :: L2)) : i ∉ L2 ∧ i ∉ L1 := by
  refine ⟨(h L1 i L2 rfl).1, fun hi => ?_⟩
  obtain ⟨M1, M2, rfl⟩ := List.append_of_mem hi
  have := (h M1 i (M2 ++ i :: L2) (by simp)).1
  simp at this

/-- Two that touch a slot are ordered. -/
def TmpOk (all : List Oper) : Prop := ∀ j t i, j < all.length → dstOf all j = some t → i < all.length → i ≠ j → t ∈ readsI all i ∨ dstOf all i = some t → Anc all i j ∨ Anc all j i

theorem okTmp_sound {A : List (Nat × Nat)} (hA : AncT all A) (h : okTmp all A = true) : TmpOk all := by
  intro j t i hj hd hi hne hr
  unfold okTmp at h
  rw [List.all_eq_true] at h
  have h1 := h j (List.mem_range.2 hj)
  rw [hd] at h1
  simp only [List.all_eq_true] at h1
  have h2 := h1 i (List.mem_range.2 hi)
  simp only [Bool.or_eq_true, Bool.not_eq_true'] at h2
  rcases h2 with ((h2 | h2) | h2) | h2
  · exact absurd (Nat.eq_of_beq_eq_true h2) hne
  · exfalso
    simp only [Bool.or_eq_false_iff] at h2
    rcases hr with hr | hr
    · rw [(inL_iff _ _).2 hr] at h2; cases h2.1
    · rw [hr] at h2
      simp at h2
  · exact .inl (hA _ _ h2)
  · exact .inr (hA _ _ h2)

/-- A slot that an operation reads is as it was in M when M did it. -/
theorem cur_read {L1 L2 : List Nat} {i t : Nat} (hT : TmpOk all) (hL : LOk all (L1 ++ i :: L2)) (hlt : ∀ j ∈ L1 ++ i :: L2, j < all.length) (hR : ∀ k, R k = true → ∀ j ∈ depsI all k, R j = true) (hi : R i = false) (hrd : ∀ k ∈ depsI all i, R k = true)
    (ht : t ∈ readsI all i) : cur all val base R (L1 ++ i :: L2) t = curA all val base L2 t := by
  have hself := hL.self
  have h1 : ∀ j ∈ L1, R j = true → dstOf all j ≠ some t := by
    intro j hj hRj hd
    rcases hT j t i (hlt j (by simp [hj])) hd (hlt i (by simp)) (fun e => hself.2 (e ▸ hj)) (.inl ht) with ha | ha
    · have := hL.anc ha
      obtain ⟨M1, M2, rfl⟩ := List.append_of_mem hj
      have h3 : LOk all (M1 ++ j :: (M2 ++ i :: L2)) := by simpa using hL
      exact h3.self.1 (by simp [this])
    · have := ha.closed (R := fun k => R k = true) hR hRj
      rw [hi] at this; cases this
  rw [cur_skip h1, cur_miss fun h => by rw [hi] at h; cases h]
  rcases last_or all (fun _ => true) t L2 with h2 | ⟨M1, k, M2, rfl, _, hd, h3⟩
  · rw [cur_none fun j hj _ => h2 j hj rfl, curA, cur_none h2]
  · have hk : R k = true := by
      rcases hT k t i (hlt k (by simp)) hd (hlt i (by simp)) (fun e => hself.1 (by simp [e])) (.inl ht) with ha | ha
      · exact ha.ready (R := fun k => R k = true) hR hrd
      · have h4 : LOk all ((L1 ++ i :: M1) ++ k :: M2) := by simpa using hL
        have := h4.anc ha
        exact absurd (show i ∈ M1 ++ k :: M2 by simp [this]) hself.1
    rw [curA, cur_skip fun j hj _ => h3 j hj rfl, cur_skip h3, cur_hit hk hd, cur_hit rfl hd]

/-- One more operation of the set. -/
theorem cur_one {L1 L2 : List Nat} {i t : Nat} (hT : TmpOk all) (hL : LOk all (L1 ++ i :: L2)) (hlt : ∀ j ∈ L1 ++ i :: L2, j < all.length) (hR : ∀ k, R k = true → ∀ j ∈ depsI all k, R j = true) (hi : R i = false) :
    cur all val base (fun k => R k || k == i) (L1 ++ i :: L2) t = if dstOf all i = some t then val i else cur all val base R (L1 ++ i :: L2) t := by
  have hself := hL.self
  have e1 : ∀ j ∈ L1, (R j || j == i) = R j := fun j hj => by
    have : j ≠ i := fun e => hself.2 (e ▸ hj)
    simp [this]
  have e2 : ∀ j ∈ L2, (R j || j == i) = R j := fun j hj => by
    have : j ≠ i := fun e => hself.1 (e ▸ hj)
    simp [this]
  by_cases hd : dstOf all i = some t
  · rw [if_pos hd]
    have h1 : ∀ j ∈ L1, (R j || j == i) = true → dstOf all j ≠ some t := by
      intro j hj hRj hd'
      rw [e1 j hj] at hRj
      rcases hT i t j (hlt i (by simp)) hd (hlt j (by simp [hj])) (fun e => hself.2 (e ▸ hj)) (.inr hd') with ha | ha
      · have := ha.closed (R := fun k => R k = true) hR hRj
        rw [hi] at this; cases this
      · have := hL.anc ha
        obtain ⟨M1, M2, rfl⟩ := List.append_of_mem hj
        have h3 : LOk all (M1 ++ j :: (M2 ++ i :: L2)) := by simpa using hL
        exact h3.self.1 (by simp [this])
    rw [cur_skip (R := fun k => R k || k == i) h1, cur_hit (R := fun k => R k || k == i) (by simp) hd]
  · rw [if_neg hd]
    have key : ∀ M : List Nat, (∀ j ∈ M, (R j || j == i) = R j) → ∀ N : List Nat, cur all val base (fun k => R k || k == i) N t = cur all val base R N t → cur all val base (fun k => R k || k == i) (M ++ N) t = cur all val base R (M ++ N) t := by
      intro M hM N hN
      induction M with
      | nil => exact hN
      | cons x M ih =>
        rw [List.cons_append]
        unfold cur
        rw [hM x (by simp), ih fun j hj => hM j (by simp [hj])]
    refine key L1 e1 _ ?_
    rw [cur_miss fun _ => hd, cur_miss fun _ => hd]
    exact cur_congr e2 fun _ _ => rfl
end
end Go.Mx
