/- Regions in any order: the whole region. -/
import Derived.Test.YtihfgcmmljnhnaaGreatMp16
set_option linter.unusedVariables false
namespace Go.Mx
open Go.Eng

section
variable {P : Program} {e : Nat} {all : List Oper} {w0 : World} {m0 : Mp} {H0 : Hp} {base : Nat → V}
variable {L : List Nat} {val : Nat → V} {gh : Nat → Nat} {R : Nat → Bool} {env : Env e} {H : Hp} {m : Mp} {w : World} {renv : List Value} {call : Cal} {A : List (Nat × Nat)}

theorem opD_other {op : Op} (h : kindO op = 3) : opD P e op = otherC P e op := by
  unfold opD
  split <;> first | (rename_i h2; rw [h] at h2; cases h2) | rfl

theorem LdSem.upd {env' : Env e} {o : Oper} {v : V} (h : LdSem P e env' o H v) (he : ∀ x ∈ o.op.operands.toList, ∀ t, x = .tmp t → t < e → lget (dpN e) env' t = lget (dpN e) env t) : LdSem P e env o H v := by
  obtain ⟨ob, wr, n, dp, d, hg, hl⟩ := h
  refine ⟨ob, wr, n, dp, d, hg, fun H2 m B w renv hg2 hH hr => hl H2 m B w renv hg2 hH fun x hx t ht hte => ?_⟩
  rw [he x hx t ht hte]
  exact hr x hx t ht hte

theorem okLd_sound (hA : AncT all A) {l : Nat} (h : okLd all A l = true) : ∃ o t a d, all[l]? = some o ∧ o.op = .load t (.tmp a) ∧ o.dst = some d ∧ a ≠ d ∧ ∀ j t', j < all.length → dstOf all j = some t' → (t' = a → Anc all l j) ∧ (t' = d → j = l) := by
  unfold okLd at h
  split at h
  · rename_i o ho
    split at h
    · rename_i t a d hop hdst hg
      simp only [Bool.and_eq_true, Bool.not_eq_true', List.all_eq_true] at h
      refine ⟨o, t, a, d, ho, hop, hdst, fun e => (by rw [e, Nat.beq_refl] at h; cases h.1), fun j t' hj hd => ?_⟩
      have h2 := h.2 j (List.mem_range.2 hj)
      rw [hd] at h2
      simp only [Bool.and_eq_true, Bool.or_eq_true, Bool.not_eq_true'] at h2
      refine ⟨fun e => ?_, fun e => ?_⟩
      · subst e
        rcases h2.1 with h3 | h3
        · rw [Nat.beq_refl] at h3; cases h3
        · exact hA _ _ h3
      · subst e
        rcases h2.2 with h3 | h3
        · rw [Nat.beq_refl] at h3; cases h3
        · exact Nat.eq_of_beq_eq_true h3
    · cases h
  · cases h

/-- A load that is looked at again goes on to be known. -/
theorem ld_again (I : Inv P e all w0 m0 H0 base L val gh R env H m w renv) (hA : AncT all A) {i : Nat} {o : Oper} {v : V} {env' : Env e} {H' : Hp} (hi : i ∉ L) (hlt : i < all.length) (ho : all[i]? = some o)
    (henv : ∀ t, t < e → lget (dpN e) env' t = if o.dst = some t then v else lget (dpN e) env t) {L1 L2 : List Nat} {k : Nat} {ok : Oper} {env_k : Env e} (hL : L = L1 ++ k :: L2) (hok : all[k]? = some ok)
    (henvk : ∀ t, t < e → lget (dpN e) env_k t = curA all val base L2 t) (hld : okLd all A k = true) {o' : Oper} {d' : Nat} (ho' : all[k]? = some o') (hd' : o'.dst = some d') (hde : d' < e) (h : LdSem P e env' o' H' (lget (dpN e) env' d')) : LdSem P e env_k ok H' (val k) := by
  obtain ⟨oo, t, a, d, hoo, hop, hdst, had, hw⟩ := okLd_sound hA hld
  have e1 : ok = oo := Option.some.inj (hok.symm.trans hoo)
  subst e1
  have e2 : ok = o' := Option.some.inj (hok.symm.trans ho')
  subst e2
  have e3 : d = d' := Option.some.inj (hdst.symm.trans hd')
  subst e3
  have hlok := hL ▸ I.lok
  have hself := hlok.self
  have hkL : k ∈ L := by rw [hL]; simp
  have hik : i ≠ k := fun e => hi (e ▸ hkL)
  -- the value
  have hv : lget (dpN e) env' d = val k := by
    rw [henv d hde, if_neg fun hh => hik ((hw i d hlt (by rw [dstOf_eq ho]; exact hh)).2 rfl), I.envM d hde, hL, curA]
    rw [cur_skip fun j hj _ hh => hself.2 (by
      have := (hw j d (I.lt j (by rw [hL]; simp [hj])) hh).2 rfl
      exact this ▸ hj), cur_hit rfl (by rw [dstOf_eq hok]; exact hdst)]
  rw [hv] at h
  refine h.upd fun x hx t' ht' hte => ?_
  have hxa : x = .tmp a := by rw [hop] at hx; simpa [Op.operands] using hx
  rw [hxa] at ht'
  cases ht'
  -- nobody has written the address since
  have hno : ∀ j, j < all.length → dstOf all j = some a → j ∈ L2 := fun j hj hd => hlok.anc ((hw j a hj hd).1 rfl)
  rw [henv a hte, if_neg fun hh => hi (by rw [hL]; have := hno i hlt (by rw [dstOf_eq ho]; exact hh); simp [this]), I.envM a hte, henvk a hte, hL, curA]
  rw [cur_skip fun j hj _ hh => ?_, cur_miss fun _ hh => ?_]
  · have := hno k (I.lt k hkL) hh
    exact hself.1 this
  · have h1 := hno j (I.lt j (by rw [hL]; simp [hj])) hh
    obtain ⟨M1, M2, rfl⟩ := List.append_of_mem hj
    have h3 : LOk all (M1 ++ j :: (M2 ++ k :: L2)) := by simpa using hlok
    exact h3.self.1 (by simp [h1])

/-- A store or a call: M and the program together. -/
theorem both_wp {Q : Exit → Act → World → Prop} {Kc : Act → World → Prop} {K : Env e → Hp → Prop} (he : e ≤ 16384) (hT : TmpOk all) (hA : AncT all A) (hC : CallOk P w0 call) (I : Inv P e all w0 m0 H0 base L val gh R env H m w renv) {i : Nat} {o : Oper} {ch : List Nat} {l : List Step}
    (hi : i ∉ L) (hn : R i = false) (hlt : i < all.length) (hr : ∀ j ∈ depsI all i, R j = true) (ho : all[i]? = some o) (hk : kindO o.op = 3) (h : (stepsC P e all (⟨i, o, ch⟩ :: l)).go call env H K)
    (hch : ∀ k ∈ L, R k = false → kindI all k = 1 → k ∈ ch) (hld : ∀ k ∈ ch, okLd all A k = true)
    (hK : ∀ v env' H' m' w' renv', Inv P e all w0 m0 H0 base (i :: L) (updN val i v) gh (fun k => R k || k == i) env' H' m' w' renv' → (stepsC P e all l).go call env' H' K → Kc (act renv') w') : wpOp P all.toArray Q i Kc (act renv) w := by
  have hrd : ∀ t ∈ readsI all i, SlR m e env renv t := by
    intro t ht hte
    have hlok := I.lok.cons hi fun j hj => I.rl j (hr j hj)
    have h1 := cur_read (val := val) (base := base) (L1 := []) (L2 := L) hT hlok (fun j hj => by
      rcases List.mem_cons.1 hj with rfl | hj
      · exact hlt
      · exact I.lt j hj) I.closR hn hr ht
    rw [I.envM t hte, ← h1]
    show VR m (cur all val base R (i :: L) t) _
    rw [cur_miss fun h => by rw [hn] at h; cases h]
    exact I.slot t hte
  have hops := reads_ops ho hrd
  have fin : ∀ {v : V} {rv : Value} {m' : Mp} {H' : Hp} {w' : World}, Le m m' → VR m' v rv → St w0 m' w' H' → Gh m m' H H' → (putC e o.dst).go env v (fun env => (chkN P e all ch (stepsC P e all l).go).go call env H' K) → Kc (act (put renv o.dst rv)) w' := by
    intro v rv m' H' w' hle hv hS hG hp
    obtain ⟨env', h1, henv⟩ := putC_env he hp
    obtain ⟨h2, h3⟩ := chkN_sound h1
    refine hK v env' H' m' w' _ (I.both hi hlt hr ho henv hle hv hS hG fun L1 k L2 ok env_k hL hok hRk hk1 henvk _ => ?_) h2
    have hkch := hch k (by rw [hL]; simp) hRk (by rw [kindI_eq hok]; exact hk1)
    obtain ⟨o', d', ho', hd', hde, hl⟩ := h3 k hkch
    exact ld_again I hA hi hlt ho henv hL hok henvk (hld k hkch) ho' hd' hde hl
  unfold wpOp
  rw [List.getElem?_toArray, ho]
  simp only
  rcases then_cases (stepsC_cons h) with ⟨hg, h1⟩ | ⟨hg, h1⟩
  · rw [if_pos (run_wanted ho I.len hrd hg)]
    rw [opD_other hk] at h1
    refine .inl (does_wp (otherC_sound hC h1 I.st hops) fun rv w' hAf => ?_)
    obtain ⟨m', v, H', hle, hv, hS, hG, hp⟩ := hAf
    exact fin hle hv hS hG hp
  · rw [if_neg (by rw [skip_wanted ho I.len hrd hg]; simp), put_act]
    exact fin (Le.refl m) (show VR m (.c .un) undef from rfl) I.st (Gh.refl m H) h1

theorem blt_lt {a b : Nat} (h : Nat.blt a b = true) : a < b := Nat.le_of_ble_eq_true h

theorem okGo_cons {i : Nat} {ch : List Nat} {p : Plan} {E : Nat} (h : okGo all A ((i, ch) :: p) E = true) : has E i = false ∧ (∀ j ∈ depsI all i, has E j = true) ∧ i < all.length ∧
    (kindI all i = 3 → ∀ j, j < all.length → (has E j = true ∧ (kindI all j = 1 → has (ancsI A i) j = true ∨ j ∈ ch)) ∨ j = i ∨ has (ancsI A j) i = true) ∧ okGo all A p (add E i) = true := by
  unfold okGo at h
  rw [fNat_eq] at h
  simp only [Bool.and_eq_true, rdyI, Bool.not_eq_true', List.all_eq_true] at h
  obtain ⟨⟨h1, h2⟩, h3, h4, h5⟩ := h
  refine ⟨h1, h2, blt_lt h3, fun hk j hj => ?_, h5⟩
  rw [hk] at h4
  simp only [Nat.beq_refl, Bool.not_true, Bool.false_or, List.all_eq_true] at h4
  have h6 := h4 j (List.mem_range.2 hj)
  simp only [Bool.or_eq_true, Bool.and_eq_true, Bool.not_eq_true'] at h6
  rcases h6 with (⟨h7, h8⟩ | h7) | h7
  · refine .inl ⟨h7, fun hk1 => ?_⟩
    rcases h8 with (h8 | h8) | h8
    · rw [hk1] at h8; cases h8
    · exact .inl h8
    · exact .inr ((inL_iff _ _).1 h8)
  · exact .inr (.inl (Nat.eq_of_beq_eq_true h7))
  · exact .inr (.inr h7)

theorem stepsOf_cons {i : Nat} {ch : List Nat} {p : Plan} {o : Oper} (ho : all[i]? = some o) : stepsOf all ((i, ch) :: p) = ⟨i, o, ch⟩ :: stepsOf all p := by
  unfold stepsOf
  rw [List.filterMap_cons]
  simp [ho]

theorem get_lt {i : Nat} (h : i < all.length) : ∃ o, all[i]? = some o := ⟨_, List.getElem?_eq_getElem h⟩

/-- M goes ahead until the operation that is ready is done, or is the next. -/
theorem advance (he : e ≤ 16384) (hA : AncT all A) {K : Env e → Hp → Prop} {i : Nat} (hlt : i < all.length) : ∀ (rem : Plan) {E : Nat} {L : List Nat} {val : Nat → V} {gh : Nat → Nat} {env : Env e} {H : Hp},
    Inv P e all w0 m0 H0 base L val gh R env H m w renv → (∀ j, has E j = true ↔ j ∈ L) → okGo all A rem E = true → (∀ x ∈ rem, ∀ l ∈ x.2, okLd all A l = true) → (stepsC P e all (stepsOf all rem)).go call env H K → i ∉ L → (∀ j ∈ depsI all i, R j = true) →
    ∃ (rem' : Plan) (E' : Nat) (L' : List Nat) (val' : Nat → V) (gh' : Nat → Nat) (env' : Env e) (H' : Hp), Inv P e all w0 m0 H0 base L' val' gh' R env' H' m w renv ∧ (∀ j, has E' j = true ↔ j ∈ L') ∧ okGo all A rem' E' = true ∧ (∀ x ∈ rem', ∀ l ∈ x.2, okLd all A l = true) ∧ (stepsC P e all (stepsOf all rem')).go call env' H' K ∧
      (i ∈ L' ∨ (i ∉ L' ∧ kindI all i = 3 ∧ ∃ ch p, rem' = (i, ch) :: p))
  | [], E, L, val, gh, env, H, I, hE, hok, hld, h, hi, hr => by
    unfold okGo at hok
    rw [List.all_eq_true] at hok
    exact absurd ((hE i).1 (hok i (List.mem_range.2 hlt))) hi
  | (k, ch) :: p, E, L, val, gh, env, H, I, hE, hok, hld, h, hi, hr => by
    obtain ⟨h1, h2, h3, h4, h5⟩ := okGo_cons hok
    obtain ⟨o, ho⟩ := get_lt h3
    by_cases hk3 : kindI all k = 3
    · by_cases hki : k = i
      · subst hki
        exact ⟨_, E, L, val, gh, env, H, I, hE, hok, hld, h, .inr ⟨hi, hk3, ch, p, rfl⟩⟩
      · exfalso
        rcases h4 hk3 i hlt with ⟨h6, _⟩ | h6 | h6
        · exact hi ((hE i).1 h6)
        · exact hki h6.symm
        · have hRk := (hA _ _ h6).ready (R := fun k => R k = true) I.closR hr
          have := (hE k).2 (I.rl k hRk)
          rw [h1] at this; cases this
    · rw [stepsOf_cons ho] at h
      have hkL : k ∉ L := fun hh => by have := (hE k).2 hh; rw [h1] at this; cases this
      obtain ⟨v, g, env', H', h6, h7, h8, h9, h10⟩ := step_ahead he I.st.hr I.gh0 (s := ⟨k, o, ch⟩) (by rw [← kindI_eq ho]; exact hk3) h
      have I' := I.ahead hkL h3 (fun j hj => (hE j).1 (h2 j hj)) ho h7 h8 h9 h10
      have hE' : ∀ j, has (add E k) j = true ↔ j ∈ k :: L := fun j => by
        rw [has_add, Bool.or_eq_true, decide_eq_true_eq, List.mem_cons, hE j]
        exact or_comm
      by_cases hki : k = i
      · subst hki
        exact ⟨p, _, _, _, _, _, _, I', hE', h5, fun x hx => hld x (List.mem_cons_of_mem _ hx), h6, .inl (by simp)⟩
      · exact advance he hA hlt p I' hE' h5 (fun x hx => hld x (List.mem_cons_of_mem _ hx)) h6 (fun hh => by
          rcases List.mem_cons.1 hh with h | h
          · exact hki h.symm
          · exact hi h) hr
end
end Go.Mx
