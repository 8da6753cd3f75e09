/- Equality of structs and arrays of numbers and bools: cell by cell. -/
import Derived.Test.YtfoepinpfaipgaaGreatEng
import Derived.Laws.StructEq
set_option linter.unusedVariables false
namespace Go.Mx
open Go.Eng

def flatFs (sz : TypeId → Nat) (f : TypeId → Option (List Bool)) : List Field → Nat → Option (List Bool)
  | [], off => some []
  | fd :: fs, off => match f fd.type with
    | some ks => match fd.name != "_" && (Nat.beq fd.offset off && Nat.beq (sz fd.type) ks.length) with
      | true => match flatFs sz f fs (off + ks.length) with
        | some r => some (ks ++ r)
        | none => none
      | false => none
    | none => none

/-- The cells of a struct or an array, if all of them are numbers (false) or bools (true). -/
def flatB (P : Program) : Nat → TypeId → Option (List Bool)
  | 0, _ => none
  | d + 1, t => match P.underlying t with
    | some (.int _) => some [false]
    | some .bool => some [true]
    | some (.struct fs) => match P.stoodInHeld t with
      | true => none
      | false => flatFs (sizeT P) (flatB P d) fs.toList 0
    | some (.array len e) => match flatB P d e with
      | some ks => match Nat.beq (sizeT P e) ks.length with
        | true => some (List.replicate len ks).flatten
        | false => none
      | none => none
    | _ => none

def cmp1 : Bool → Value → Value → Prop
  | false, .int k _, .int j _ => k = j
  | true, .bool _, .bool _ => True
  | _, _, _ => False
def cmpOk : List Bool → List Value → List Value → Prop
  | [], [], [] => True
  | k :: ks, x :: xs, y :: ys => cmp1 k x y ∧ cmpOk ks xs ys
  | _, _, _ => False
def eqv1 : Value → Value → Bool
  | .int _ a, .int _ b => a == b
  | .bool a, .bool b => a == b
  | _, _ => true
def eqvL : List Value → List Value → Bool
  | x :: xs, y :: ys => eqv1 x y && eqvL xs ys
  | _, _ => true

theorem cmpOk.len : ∀ {ks : List Bool} {xs ys : List Value}, cmpOk ks xs ys → xs.length = ks.length ∧ ys.length = ks.length
  | [], [], [], _ => ⟨rfl, rfl⟩
  | _ :: _, _ :: _, _ :: _, ⟨_, h⟩ => by simp [cmpOk.len h]
theorem cmpOk.split : ∀ {ks ls : List Bool} {xs ys : List Value}, cmpOk (ks ++ ls) xs ys → cmpOk ks (xs.take ks.length) (ys.take ks.length) ∧ cmpOk ls (xs.drop ks.length) (ys.drop ks.length) ∧
    eqvL xs ys = (eqvL (xs.take ks.length) (ys.take ks.length) && eqvL (xs.drop ks.length) (ys.drop ks.length))
  | [], ls, xs, ys, h => ⟨trivial, h, rfl⟩
  | k :: ks, ls, x :: xs, y :: ys, ⟨a, h⟩ => by
    obtain ⟨h1, h2, h3⟩ := cmpOk.split h
    refine ⟨⟨a, h1⟩, h2, ?_⟩
    show (eqv1 x y && eqvL xs ys) = ((eqv1 x y && eqvL (xs.take ks.length) (ys.take ks.length)) && eqvL (xs.drop ks.length) (ys.drop ks.length))
    rw [h3, Bool.and_assoc]

theorem cmp_one {k : Bool} : ∀ {xs ys : List Value}, cmpOk [k] xs ys → ∃ x y, xs = [x] ∧ ys = [y] ∧ cmp1 k x y
  | [], [], h => h.elim
  | [], _ :: _, h => h.elim
  | _ :: _, [], h => h.elim
  | [x], [y], h => ⟨x, y, rfl, rfl, h.1⟩
  | _ :: _ :: _, [_], h => h.2.elim
  | [_], _ :: _ :: _, h => h.2.elim
  | _ :: _ :: _, _ :: _ :: _, h => h.2.elim

section
variable {P : Program}

/-- A value of these cells. -/
def wrapV (P : Program) (t : TypeId) (xs : List Value) : Value := if isAgg? P t = true then .agg xs.toArray else xs.headD undef

theorem run_part {t : TypeId} {i : TypeInfo} {dsc : TypeDesc} (hi : P.info? t = some i) (hd : P.underlying t = some dsc) {cs : List Value} {off n : Nat} (hn : i.size = n) (hl : off + n ≤ cs.length) (h1 : isAgg? P t = false → n = 1) (w : World) :
    (part t cs.toArray off).run P w = .ok (wrapV P t ((cs.drop off).take n)) w := by
  unfold part wrapV
  rw [Sem.run_bind, run_isAgg hd]
  simp only [Result.andThen_ok]
  split
  · simp only [Sem.run_bind, Eng.run_sizeOf hi, Result.andThen_ok, Sem.run_pure, hn]
    congr 2
    apply Array.ext'
    simp [List.extract]
  · rename_i ha
    have hn1 := h1 (by simpa using ha)
    subst hn1
    have hlt : off < cs.length := by omega
    have hx : (cs.drop off).take 1 = [cs[off]] := by
      rw [List.drop_eq_getElem_cons hlt]
      rfl
    have hg : cs.toArray[off]? = some cs[off] := by simp [hlt]
    rw [hx]
    simp only [hg]
    rfl

theorem flat_info {d : Nat} {t : TypeId} {n : List Bool} (h : flatB P d t = some n) : ∃ i dsc, P.info? t = some i ∧ P.underlying t = some dsc := by
  cases d with
  | zero => cases h
  | succ d =>
    unfold flatB at h
    cases hu : P.underlying t with
    | none => rw [hu] at h; cases h
    | some dsc =>
      cases hi : P.info? t with
      | some i => exact ⟨i, dsc, rfl, rfl⟩
      | none => simp [Program.underlying, hi] at hu

theorem flat_single {d : Nat} {t : TypeId} {n : List Bool} (h : flatB P d t = some n) (ha : isAgg? P t = false) : n.length = 1 := by
  cases d with
  | zero => cases h
  | succ d =>
    unfold flatB at h
    unfold isAgg? at ha
    split at h
    · cases h; rfl
    · cases h; rfl
    · rename_i hu; rw [hu] at ha; cases ha
    · rename_i hu; rw [hu] at ha; cases ha
    · cases h

/-- Equality of two values of a type, cell by cell. -/
def EqOk (P : Program) (D : Nat) (t : TypeId) (ks : List Bool) : Prop := ∀ xs ys : List Value, cmpOk ks xs ys → ∀ w, (Op.equalIn D t (wrapV P t xs) (wrapV P t ys)).run P w = .ok (eqvL xs ys) w

theorem eq_step {t : TypeId} {ks : List Bool} {D off : Nat} {xs ys : List Value} (hE : EqOk P D t ks) {i : TypeInfo} {dsc : TypeDesc} (hi : P.info? t = some i) (hd : P.underlying t = some dsc) (hn : i.size = ks.length) (h1 : isAgg? P t = false → ks.length = 1)
    (hc : cmpOk ks ((xs.drop off).take ks.length) ((ys.drop off).take ks.length)) (w : World) {α : Type} (K : Bool → Sem α) :
    ((do K (← Op.equalIn D t (← part t xs.toArray off) (← part t ys.toArray off))) : Sem α).run P w = (K (eqvL ((xs.drop off).take ks.length) ((ys.drop off).take ks.length))).run P w := by
  obtain ⟨l1, l2⟩ := hc.len
  rw [List.length_take, List.length_drop] at l1 l2
  cases hk : ks.length with
  | zero =>
    have : i.size = 0 := by omega
    cases ha : isAgg? P t with
    | false => have := h1 ha; omega
    | true =>
      have run0 : ∀ cs : List Value, (part t cs.toArray off).run P w = .ok (wrapV P t []) w := by
        intro cs
        unfold part wrapV
        rw [Sem.run_bind, run_isAgg hd, ha]
        simp only [Result.andThen_ok, if_true, Sem.run_bind, Eng.run_sizeOf hi, Sem.run_pure, this]
        congr 2
        apply Array.ext'
        simp [List.extract]
      rw [hk] at hc
      simp only [Sem.run_bind, run0, Result.andThen_ok]
      rw [hE [] [] hc]
      rfl
  | succ n =>
    rw [← hk]
    simp only [Sem.run_bind, run_part (cs := xs) (off := off) hi hd hn (by omega) h1 w, run_part (cs := ys) (off := off) hi hd hn (by omega) h1 w, Result.andThen_ok]
    rw [hE _ _ hc]
    rfl

theorem fields_ok {d D : Nat} (hE : ∀ t ks, flatB P d t = some ks → EqOk P D t ks) {xs ys : List Value} : ∀ (fs : List Field) (off : Nat) (ks : List Bool), flatFs (sizeT P) (flatB P d) fs off = some ks → cmpOk ks (xs.drop off) (ys.drop off) →
    ∀ w, (Op.eqFields D xs.toArray ys.toArray fs).run P w = .ok (eqvL (xs.drop off) (ys.drop off)) w
  | [], off, ks, h, hc => by
    cases h
    intro w
    have h0 := hc.len
    rw [List.eq_nil_of_length_eq_zero h0.1]
    simp [Op.eqFields, eqvL]
  | fd :: fs, off, ks, h, hc => by
    unfold flatFs at h
    split at h
    rotate_left
    · cases h
    rename_i ks1 hm
    split at h
    rotate_left
    · cases h
    rename_i hb
    split at h
    rotate_left
    · cases h
    rename_i ks2 hr
    cases h
    simp only [Bool.and_eq_true, bne_iff_ne, ne_eq] at hb
    obtain ⟨hnm, ho, hs⟩ := hb
    have ho : fd.offset = off := Nat.eq_of_beq_eq_true ho
    have hs : sizeT P fd.type = ks1.length := Nat.eq_of_beq_eq_true hs
    obtain ⟨c1, c2, c3⟩ := hc.split
    rw [List.drop_drop, List.drop_drop] at c2 c3
    have ih := fields_ok hE fs (off + ks1.length) ks2 hr c2
    intro w
    obtain ⟨i, dsc, hi, hd⟩ := flat_info hm
    have hsz : i.size = ks1.length := by unfold sizeT at hs; rw [hi] at hs; exact hs
    unfold Op.eqFields
    rw [if_pos (by simpa using hnm), ho]
    have := eq_step (K := fun r => if (!r) = true then pure false else Op.eqFields D xs.toArray ys.toArray fs) (hE _ _ hm) hi hd hsz (flat_single hm) c1 w
    refine Eq.trans this ?_
    rw [c3]
    cases hq : eqvL ((xs.drop off).take ks1.length) ((ys.drop off).take ks1.length) with
    | false => rfl
    | true =>
      simp only [Bool.not_true, Bool.false_eq_true, if_false, Bool.true_and]
      exact ih w

theorem array_ok {D : Nat} {e : TypeId} {ks : List Bool} (hE : EqOk P D e ks) {i : TypeInfo} {dsc : TypeDesc} (hi : P.info? e = some i) (hd : P.underlying e = some dsc) (hn : i.size = ks.length) (h1 : isAgg? P e = false → ks.length = 1) {xs ys : List Value} (w : World) :
    ∀ (l : List Nat) (a : Nat), l = List.range' a l.length → cmpOk (List.replicate l.length ks).flatten (xs.drop (a * ks.length)) (ys.drop (a * ks.length)) →
      (forIn l ((none, ()) : Option Bool × Unit) (fun i _ => do
        let r ← Op.equalIn D e (← part e xs.toArray (i * ks.length)) (← part e ys.toArray (i * ks.length))
        if (!r) = true then pure (ForInStep.done (some false, ())) else pure (ForInStep.yield (none, ()))) : Sem (Option Bool × Unit)).run P w = .ok ((if eqvL (xs.drop (a * ks.length)) (ys.drop (a * ks.length)) = true then none else some false), ()) w
  | [], a, _, hc => by
    have h0 := hc.len
    rw [List.eq_nil_of_length_eq_zero h0.1]
    simp [eqvL]
  | j :: l, a, hr, hc => by
    rw [List.length_cons, List.range'_succ] at hr
    simp only [List.cons.injEq] at hr
    obtain ⟨rfl, hr⟩ := hr
    rw [List.length_cons, List.replicate_succ, List.flatten_cons] at hc
    obtain ⟨c1, c2, c3⟩ := hc.split
    rw [List.drop_drop, List.drop_drop, ← Nat.succ_mul] at c2 c3
    rw [List.forIn_cons, Sem.run_bind]
    have := eq_step (K := fun r => if (!r) = true then (pure (ForInStep.done (some false, ())) : Sem (ForInStep (Option Bool × Unit))) else pure (ForInStep.yield (none, ()))) hE hi hd hn h1 c1 w
    rw [this, c3]
    have ih := array_ok hE hi hd hn h1 w l (j + 1) hr c2
    cases hq : eqvL ((xs.drop (j * ks.length)).take ks.length) ((ys.drop (j * ks.length)).take ks.length) with
    | false => rfl
    | true =>
      simp only [Bool.not_true, Bool.false_eq_true, if_false, Bool.true_and]
      exact ih

theorem eq_flat : ∀ (d : Nat) (t : TypeId) (ks : List Bool), flatB P d t = some ks → ∀ D, d ≤ D → EqOk P D t ks
  | 0, _, _, h => by cases h
  | d + 1, t, ks, h => by
    intro D hD xs ys hc w
    obtain ⟨D, rfl⟩ : ∃ D', D = D' + 1 := ⟨D - 1, by omega⟩
    have hD' : d ≤ D := by omega
    unfold flatB at h
    split at h
    · rename_i k hu
      cases h
      have ha : isAgg? P t = false := by unfold isAgg?; rw [hu]
      obtain ⟨x, y, rfl, rfl, hxy⟩ := cmp_one hc
      unfold wrapV
      rw [ha]
      cases x <;> cases y <;> first | exact hxy.elim | skip
      have hk : _ = _ := hxy
      subst hk
      refine (run_equalIn_int w D t _ k _ _ hu).trans ?_
      simp [eqvL, eqv1]
    · rename_i hu
      cases h
      have ha : isAgg? P t = false := by unfold isAgg?; rw [hu]
      obtain ⟨x, y, rfl, rfl, hxy⟩ := cmp_one hc
      unfold wrapV
      rw [ha]
      cases x <;> cases y <;> first | exact hxy.elim | skip
      refine (run_equalIn_bool' w D t _ _ hu).trans ?_
      simp [eqvL, eqv1]
    · rename_i fs hu
      split at h
      · cases h
      rename_i hst
      have ha : isAgg? P t = true := by unfold isAgg?; rw [hu]
      have hf : P.fieldsOf t = fs := by unfold Program.fieldsOf; rw [hu]
      have := fields_ok (fun t ks h => eq_flat d t ks h D hD') fs.toList 0 ks h hc w
      unfold wrapV
      rw [if_pos ha, if_pos ha, run_equalIn_struct w D t _ _ (by rw [hf]; exact hu) hst, hf]
      exact this
    · rename_i len e hu
      split at h
      rotate_left
      · cases h
      rename_i ks1 hm
      split at h
      rotate_left
      · cases h
      rename_i hs
      cases h
      have hs : sizeT P e = ks1.length := Nat.eq_of_beq_eq_true hs
      obtain ⟨i, dsc, hi, hd⟩ := flat_info hm
      have hsz : i.size = ks1.length := by unfold sizeT at hs; rw [hi] at hs; exact hs
      have ha : isAgg? P t = true := by unfold isAgg?; rw [hu]
      have := array_ok (eq_flat d e ks1 hm D hD') hi hd hsz (flat_single hm) (xs := xs) (ys := ys) w (List.range' 0 len) 0 (by simp) (by simpa using hc)
      unfold wrapV
      rw [if_pos ha, if_pos ha]
      simp only [Op.equalIn, Sem.run_bind, run_underlying hu, Result.andThen_ok, Eng.run_sizeOf hi, hsz]
      simp only [Nat.zero_mul, List.drop_zero] at this
      rw [Std.Legacy.Range.forIn_eq_forIn_range']
      simp only [Std.Legacy.Range.size, Nat.sub_zero, Nat.add_one_sub_one, Nat.div_one]
      rw [this]
      cases eqvL xs ys <;> rfl
    · cases h
end
end Go.Mx
