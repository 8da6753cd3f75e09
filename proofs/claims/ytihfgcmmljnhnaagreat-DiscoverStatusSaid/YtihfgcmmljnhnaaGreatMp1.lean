/- Trees, eliminators: what the continuations are handed. -/
import Derived.Test.YtihfgcmmljnhnaaGreatMx2
set_option linter.unusedVariables false
namespace Go.Mx

theorem fN_iff {n : Nat} {K : Nat → Prop} : fN n K ↔ K n := by cases n <;> exact Iff.rfl
theorem fI_iff {n : Int} {K : Int → Prop} : fI n K ↔ K n := by
  cases n with
  | ofNat m => exact fN_iff (n := m) (K := fun m => K (.ofNat m))
  | negSucc m => exact fN_iff (n := m) (K := fun m => K (.negSucc m))
theorem fNB_eq {γ : Type} (n : Nat) (K : Nat → Bx γ) : fNB n K = K n := by cases n <;> rfl
theorem fNat_eq {γ : Type} (n : Nat) (K : Nat → γ) : fNat n K = K n := by cases n <;> rfl
theorem iff_t {b : Bool} {T : Prop} (h : iff b T False) : b = true ∧ T := by cases b; exact h.elim; exact ⟨rfl, h⟩
theorem iff_f {b : Bool} {T : Prop} (h : iff b False T) : b = false ∧ T := by cases b; exact ⟨rfl, h⟩; exact h.elim
theorem iff_c {b : Bool} {T F : Prop} (h : iff b T F) : (b = true ∧ T) ∨ (b = false ∧ F) := by cases b; exact .inr ⟨rfl, h⟩; exact .inl ⟨rfl, h⟩
theorem bind_go {β γ : Type} (b : Bx β) (k : β → Bx γ) : (b.bind k).go = (k b.go).go := by cases b; rfl
theorem mk_go {β : Type} (x : β) : (Bx.mk x).go = x := rfl
theorem ble_le {a b : Nat} (h : Nat.ble a b = true) : a ≤ b := Nat.le_of_ble_eq_true h
theorem not_ble {a b : Nat} (h : Nat.ble a b = false) : b < a := by
  rcases Nat.lt_or_ge b a with h1 | h1
  · exact h1
  · rw [Nat.ble_eq_true_of_le h1] at h; cases h
theorem beq_eq {a b : Nat} (h : Nat.beq a b = true) : a = b := Nat.eq_of_beq_eq_true h
theorem not_beq {a b : Nat} (h : Nat.beq a b = false) : a ≠ b := Nat.ne_of_beq_eq_false h

section
variable {β : Type}

/-- The child that a digit names. -/
noncomputable def sel (t : N4 β) (d : Nat) : β := four d t.x0 t.x1 t.x2 t.x3
noncomputable def upd (t : N4 β) (d : Nat) (v : β) : N4 β := four d ⟨v, t.x1, t.x2, t.x3⟩ ⟨t.x0, v, t.x2, t.x3⟩ ⟨t.x0, t.x1, v, t.x3⟩ ⟨t.x0, t.x1, t.x2, v⟩

noncomputable def lget : (n : Nat) → Lv β n → Nat → β
  | 0, t, _ => t
  | n + 1, t, k => lget n (sel t (k % 4)) (k / 4)
noncomputable def lset : (n : Nat) → Lv β n → Nat → β → Lv β n
  | 0, _, _, v => v
  | n + 1, t, k, v => upd t (k % 4) (lset n (sel t (k % 4)) (k / 4) v)

theorem four_cases (d : Nat) : d = 0 ∨ d = 1 ∨ d = 2 ∨ (d ≠ 0 ∧ d ≠ 1 ∧ d ≠ 2) := by omega
theorem four0 {γ : Type} {a b c e : γ} : four 0 a b c e = a := rfl
theorem four1 {γ : Type} {a b c e : γ} : four 1 a b c e = b := rfl
theorem four2 {γ : Type} {a b c e : γ} : four 2 a b c e = c := rfl
theorem four3 {γ : Type} {a b c e : γ} : four 3 a b c e = e := rfl

theorem mod4 (k : Nat) : k % 4 = 0 ∨ k % 4 = 1 ∨ k % 4 = 2 ∨ k % 4 = 3 := by omega

theorem get1_eq {γ : Type} {h : β → (γ → Prop) → Prop} {f : β → γ} (hh : ∀ x K, h x K = K (f x)) {d : Nat} (hd : d < 4) (t : N4 β) (K : γ → Prop) : (get1 h d).go t K = K (f (sel t d)) := by
  unfold get1 sel
  rcases (show d = 0 ∨ d = 1 ∨ d = 2 ∨ d = 3 by omega) with rfl | rfl | rfl | rfl <;> exact hh _ _

theorem set1_eq {γ : Type} {h : β → γ → (β → Prop) → Prop} {f : β → γ → β} (hh : ∀ x v K, h x v K = K (f x v)) {d : Nat} (hd : d < 4) (t : N4 β) (v : γ) (K : N4 β → Prop) : (set1 h d).go t v K = K (upd t d (f (sel t d) v)) := by
  unfold set1 upd sel
  rcases (show d = 0 ∨ d = 1 ∨ d = 2 ∨ d = 3 by omega) with rfl | rfl | rfl | rfl <;> exact hh _ _ _

theorem getC_eq : ∀ (n k : Nat) (t : Lv β n) (K : β → Prop), (getC n k).go t K = K (lget n t k)
  | 0, _, _, _ => rfl
  | n + 1, k, t, K => (congrFun (congrFun (bind_go (getC (β := β) n (Nat.div k 4)) fun h => get1 h (Nat.mod k 4)) t) K).trans
      (get1_eq (f := fun x => lget n x (k / 4)) (fun x K => getC_eq n (k / 4) x K) (Nat.mod_lt k (by omega)) t K)

theorem setC_eq : ∀ (n k : Nat) (t : Lv β n) (v : β) (K : Lv β n → Prop), (setC n k).go t v K = K (lset n t k v)
  | 0, _, _, _, _ => rfl
  | n + 1, k, t, v, K => (congrFun (congrFun (congrFun (bind_go (setC (β := β) n (Nat.div k 4)) fun h => set1 h (Nat.mod k 4)) t) v) K).trans
      (set1_eq (f := fun x v => lset n x (k / 4) v) (fun x v K => setC_eq n (k / 4) x v K) (Nat.mod_lt k (by omega)) t v K)

theorem sel_upd (t : N4 β) (d e : Nat) (hd : d < 4) (he : e < 4) (v : β) : sel (upd t d v) e = if e = d then v else sel t e := by
  rcases (show d = 0 ∨ d = 1 ∨ d = 2 ∨ d = 3 by omega) with rfl | rfl | rfl | rfl <;> rcases (show e = 0 ∨ e = 1 ∨ e = 2 ∨ e = 3 by omega) with rfl | rfl | rfl | rfl <;> rfl

theorem lget_lset_aux (n : Nat) (ih : ∀ (t : Lv β n) (k j : Nat) (v : β), k < 4 ^ n → j < 4 ^ n → lget n (lset n t k v) j = if j = k then v else lget n t j)
    (t : N4 (Lv β n)) (k j : Nat) (v : β) (hk : k < 4 ^ n * 4) (hj : j < 4 ^ n * 4) : lget n (sel (upd t (k % 4) (lset n (sel t (k % 4)) (k / 4) v)) (j % 4)) (j / 4) = if j = k then v else lget n (sel t (j % 4)) (j / 4) := by
  rw [sel_upd _ _ _ (Nat.mod_lt _ (by omega)) (Nat.mod_lt _ (by omega))]
  by_cases hm : j % 4 = k % 4
  · rw [if_pos hm, ih _ _ _ _ (by omega) (by omega), ← hm]
    by_cases hq : j / 4 = k / 4
    · rw [if_pos hq, if_pos (show j = k by omega)]
    · rw [if_neg hq, if_neg (show ¬ j = k by omega)]
  · rw [if_neg hm, if_neg (show ¬ j = k from fun e => hm (by rw [e]))]

theorem lget_lset : ∀ (n : Nat) (t : Lv β n) (k j : Nat) (v : β), k < 4 ^ n → j < 4 ^ n → lget n (lset n t k v) j = if j = k then v else lget n t j
  | 0, t, k, j, v, hk, hj => by
    have : j = k := by simp at hk hj; omega
    rw [if_pos this]
    rfl
  | n + 1, t, k, j, v, hk, hj => lget_lset_aux n (lget_lset n) t k j v (by rw [← Nat.pow_succ]; exact hk) (by rw [← Nat.pow_succ]; exact hj)

theorem lget_uni : ∀ (n : Nat) (x : β) (k : Nat), lget n (uni x n) k = x
  | 0, _, _ => rfl
  | n + 1, x, k => by
    show lget n (sel (N4.mk (uni x n) (uni x n) (uni x n) (uni x n)) (k % 4)) (k / 4) = x
    have : sel (N4.mk (uni x n) (uni x n) (uni x n) (uni x n)) (k % 4) = uni x n := by
      unfold sel; rcases mod4 k with h | h | h | h <;> rw [h] <;> rfl
    rw [this, lget_uni n]
end

theorem lget_zeros (g : Nat → C) : ∀ (dp i s k : Nat), k < 4 ^ dp → lget dp (zerosL dp g i s) k = g (i + s * k)
  | 0, i, s, k, hk => by
    have : k = 0 := by simp at hk; omega
    subst this
    simp [lget, zerosL]
  | dp + 1, i, s, k, hk => by
    have e4 : 4 ^ (dp + 1) = 4 ^ dp * 4 := Nat.pow_succ ..
    show lget dp (sel (N4.mk (zerosL dp g i (4 * s)) (zerosL dp g (i + s) (4 * s)) (zerosL dp g (i + 2 * s) (4 * s)) (zerosL dp g (i + 3 * s) (4 * s))) (k % 4)) (k / 4) = g (i + s * k)
    have key : ∀ q, k % 4 = q → lget dp (zerosL dp g (i + q * s) (4 * s)) (k / 4) = g (i + s * k) := by
      intro q hq
      rw [lget_zeros g dp _ _ _ (by omega)]
      congr 1
      have : k = 4 * (k / 4) + q := by omega
      generalize k / 4 = r at this
      subst this
      rw [Nat.mul_add, Nat.mul_comm q s, Nat.add_assoc, Nat.mul_assoc 4 s r, Nat.mul_left_comm s 4 r]
      omega
    unfold sel
    rcases mod4 k with h | h | h | h <;> rw [h]
    · have := key 0 h; rw [four0]; simpa using this
    · have := key 1 h; rw [four1]; simpa using this
    · exact key 2 h
    · exact key 3 h

theorem lget_tr {dp : Nat} {l : List C} {k : Nat} (hk : k < 4 ^ dp) : lget dp (tr dp l) k = nthD l k := by
  unfold tr
  rw [lget_zeros _ _ _ _ _ hk]
  simp

theorem nthD_of {l : List C} {k : Nat} {c : C} (h : l[k]? = some c) : nthD l k = c := by unfold nthD; rw [h]

/-- The depth is enough. -/
theorem dpN_le {n : Nat} (h : n ≤ 16384) : n ≤ 4 ^ dpN n := by
  have key : ∀ {m : Nat} {d e : Nat}, (n ≤ m → n ≤ 4 ^ d) → n ≤ 4 ^ e → n ≤ 4 ^ (@Bool.rec (fun _ => Nat) e d (Nat.ble n m)) := by
    intro m d e h1 h2
    cases hb : Nat.ble n m with
    | true => exact h1 (ble_le hb)
    | false => exact h2
  unfold dpN
  refine key (fun h => h) (key (fun h => h) (key (fun h => by simpa using h) (key (fun h => by simpa using h) (key (fun h => by simpa using h) (key (fun h => by simpa using h) (key (fun h => by simpa using h) (by simpa using h)))))))

/-! ### Values by their kind -/

theorem onC_iff {x : V} {K : C → Prop} (h : onC x K) : ∃ c, x = .c c ∧ K c := by
  cases x with
  | c c => exact ⟨c, rfl, h⟩
  | _ => exact h.elim
theorem onA_iff {x : V} {K : (dp : Nat) → Lv C dp → Nat → Nat → Prop} (h : onA x K) : ∃ dp d o n, x = .a dp d o n ∧ K dp d o n := by
  cases x with
  | a dp d o n => exact ⟨dp, d, o, n, rfl, h⟩
  | _ => exact h.elim
theorem onT_iff {x : V} {K : List V → Prop} (h : onT x K) : ∃ l, x = .t l ∧ K l := by
  cases x with
  | t l => exact ⟨l, rfl, h⟩
  | _ => exact h.elim
theorem onI_iff {x : V} {K : Nat → Int → Prop} (h : onI x K) : ∃ k n, x = .c (.i k n) ∧ K k n := by
  cases x with
  | c c => cases c with
    | i k n => exact ⟨k, n, rfl, h⟩
    | _ => exact h.elim
  | _ => exact h.elim
theorem onN_iff {x : V} {K : Nat → Prop} (h : onN x K) : ∃ (k n : Nat), x = .c (.i k (.ofNat n)) ∧ K n := by
  obtain ⟨k, n, rfl, h⟩ := onI_iff h
  cases n with
  | ofNat n => exact ⟨k, n, rfl, h⟩
  | negSucc n => exact h.elim
theorem onB_iff {x : V} {T F : Prop} (h : onB x T F) : ∃ b, x = .c (.b b) ∧ ((b = true ∧ T) ∨ (b = false ∧ F)) := by
  cases x with
  | c c => cases c with
    | b b => refine ⟨b, rfl, ?_⟩; cases b; exact .inr ⟨rfl, h⟩; exact .inl ⟨rfl, h⟩
    | _ => exact h.elim
  | _ => exact h.elim
theorem pO_iff {x : V} {K : Nat → Nat → Prop} (h : pO x K) : ∃ o off, x = .c (.p o off) ∧ K o off := by
  cases x with
  | c c => cases c with
    | p o off => exact ⟨o, off, rfl, h⟩
    | _ => exact h.elim
  | _ => exact h.elim
theorem onS_iff {x : V} {N E : Prop} {K : Nat → Nat → Nat → Nat → Option Nat → Prop} (h : onS x N E K) : (x = .c .ns ∧ N) ∨ (x = .c .es ∧ E) ∨ ∃ o off len sz c, x = .c (.s o off len sz c) ∧ K o off len sz c := by
  cases x with
  | c c => cases c with
    | ns => exact .inl ⟨rfl, h⟩
    | es => exact .inr (.inl ⟨rfl, h⟩)
    | s o off len sz c => exact .inr (.inr ⟨o, off, len, sz, c, rfl, h⟩)
    | _ => exact h.elim
  | _ => exact h.elim
theorem ii_iff {x y : V} {K : Nat → Int → Int → Prop} (h : ii x y K) : ∃ k a b, x = .c (.i k a) ∧ y = .c (.i k b) ∧ K k a b := by
  cases x with
  | c c => cases c with
    | i k a => cases y with
      | c c => cases c with
        | i j b =>
          obtain ⟨h1, h⟩ := iff_t (show iff (Nat.beq k j) (K k a b) False from h)
          exact ⟨k, a, b, rfl, by rw [beq_eq h1], h⟩
        | _ => exact h.elim
      | _ => exact h.elim
    | _ => exact h.elim
  | _ => exact h.elim
theorem iiS_iff {x y : V} {K : Nat → Int → Int → Prop} (h : iiS x y K) : ∃ k j a b, x = .c (.i k a) ∧ y = .c (.i j b) ∧ K k a b := by
  obtain ⟨k, a, e1, h1⟩ := onI_iff h
  obtain ⟨j, b, e2, h2⟩ := onI_iff h1
  exact ⟨k, j, a, b, e1, e2, h2⟩
theorem two_iff {l : List V} {K : V → V → Prop} (h : two l K) : ∃ x y, l = [x, y] ∧ K x y := by
  match l, h with
  | [], h => exact h.elim
  | [_], h => exact h.elim
  | [x, y], h => exact ⟨x, y, rfl, h⟩
  | _ :: _ :: _ :: _, h => exact h.elim
theorem one_iff {l : List V} {K : V → Prop} (h : one l K) : ∃ x, l = [x] ∧ K x := by
  match l, h with
  | [], h => exact h.elim
  | [x], h => exact ⟨x, rfl, h⟩
  | _ :: _ :: _, h => exact h.elim

/-! ### Cells -/

/-- The cells from a place on are replaced. -/
noncomputable def lputs (dp : Nat) : List C → Lv C dp → Nat → Lv C dp
  | [], d, _ => d
  | v :: vs, d, i => lputs dp vs (lset dp d i v) (i + 1)

noncomputable def lcells (dp : Nat) (d : Lv C dp) : Nat → Nat → List C
  | 0, _ => []
  | m + 1, i => lget dp d i :: lcells dp d m (i + 1)
noncomputable def lmove (dp' : Nat) (d' : Lv C dp') (dp : Nat) : Nat → Nat → Nat → Lv C dp → Lv C dp
  | 0, _, _, d => d
  | m + 1, i, j, d => lmove dp' d' dp m (i + 1) (j + 1) (lset dp d j (lget dp' d' i))


theorem putsK_iff (dp : Nat) : ∀ (vs : List C) (d : Lv C dp) (i : Nat) (K : Lv C dp → Prop), putsK dp vs d i K ↔ K (lputs dp vs d i)
  | [], _, _, _ => Iff.rfl
  | v :: vs, d, i, K => by
    show (setC dp i).go d v (fun d => fN (Nat.succ i) fun j => putsK dp vs d j K) ↔ _
    rw [setC_eq, fN_iff]
    exact putsK_iff dp vs _ _ K
theorem cellsK_iff (dp : Nat) (d : Lv C dp) : ∀ (m i : Nat) (K : List C → Prop), cellsK dp d m i K ↔ K (lcells dp d m i)
  | 0, _, _ => Iff.rfl
  | m + 1, i, K => by
    show (getC dp i).go d (fun v => fN (Nat.succ i) fun j => cellsK dp d m j fun vs => K (v :: vs)) ↔ _
    rw [getC_eq, fN_iff]
    exact cellsK_iff dp d m _ _
theorem moveK_iff (dp' : Nat) (d' : Lv C dp') (dp : Nat) : ∀ (m i j : Nat) (d : Lv C dp) (K : Lv C dp → Prop), moveK dp' d' dp m i j d K ↔ K (lmove dp' d' dp m i j d)
  | 0, _, _, _, _ => Iff.rfl
  | m + 1, i, j, d, K => by
    show (getC dp' i).go d' (fun v => (setC dp j).go d v fun d => fN (Nat.succ i) fun i => fN (Nat.succ j) fun j => moveK dp' d' dp m i j d K) ↔ _
    rw [getC_eq, setC_eq, fN_iff, fN_iff]
    exact moveK_iff dp' d' dp m _ _ _ K

theorem length_lcells (dp : Nat) (d : Lv C dp) : ∀ m i, (lcells dp d m i).length = m
  | 0, _ => rfl
  | m + 1, i => by simp [lcells, length_lcells dp d m]
theorem get_lcells (dp : Nat) (d : Lv C dp) : ∀ m i j, j < m → (lcells dp d m i)[j]? = some (lget dp d (i + j))
  | 0, _, _, h => by omega
  | m + 1, i, 0, _ => by simp [lcells]
  | m + 1, i, j + 1, h => by
    simp only [lcells, List.getElem?_cons_succ]
    rw [get_lcells dp d m _ _ (by omega), show i + 1 + j = i + (j + 1) by omega]

theorem lget_lputs (dp : Nat) : ∀ (vs : List C) (d : Lv C dp) (i j : Nat), i + vs.length ≤ 4 ^ dp → j < 4 ^ dp →
    lget dp (lputs dp vs d i) j = if i ≤ j then (match vs[j - i]? with | some c => c | none => lget dp d j) else lget dp d j
  | [], d, i, j, _, _ => by
    show lget dp d j = _
    simp
  | v :: vs, d, i, j, hi, hj => by
    simp only [List.length_cons] at hi
    show lget dp (lputs dp vs (lset dp d i v) (i + 1)) j = _
    rw [lget_lputs dp vs _ _ _ (by omega) hj, lget_lset _ _ _ _ _ (by omega) hj]
    by_cases h1 : j < i
    · rw [if_neg (by omega), if_neg (by omega : ¬ i ≤ j)]
      exact if_neg (by omega)
    · by_cases h2 : j = i
      · subst h2; rw [if_neg (by omega), if_pos rfl, if_pos (Nat.le_refl _)]; simp
      · rw [if_neg h2, if_pos (show i + 1 ≤ j by omega), if_pos (show i ≤ j by omega), show j - i = (j - (i + 1)) + 1 by omega, List.getElem?_cons_succ]

theorem lget_lmove (dp' : Nat) (d' : Lv C dp') (dp : Nat) : ∀ (m i j : Nat) (d : Lv C dp) (k : Nat), j + m ≤ 4 ^ dp → k < 4 ^ dp →
    lget dp (lmove dp' d' dp m i j d) k = if j ≤ k ∧ k < j + m then lget dp' d' (i + (k - j)) else lget dp d k
  | 0, i, j, d, k, _, _ => by
    show lget dp d k = _
    rw [if_neg (by omega)]
  | m + 1, i, j, d, k, hj, hk => by
    show lget dp (lmove dp' d' dp m (i + 1) (j + 1) (lset dp d j (lget dp' d' i))) k = _
    rw [lget_lmove dp' d' dp m _ _ _ _ (by omega) hk, lget_lset _ _ _ _ _ (by omega) hk]
    by_cases h1 : k = j
    · subst h1; rw [if_neg (by omega), if_pos rfl, if_pos (by omega)]; simp
    · by_cases h2 : j + 1 ≤ k ∧ k < j + 1 + m
      · rw [if_pos h2, if_pos (by omega), show i + 1 + (k - (j + 1)) = i + (k - j) by omega]
      · rw [if_neg h2, if_neg h1, if_neg (by omega)]
end Go.Mx
