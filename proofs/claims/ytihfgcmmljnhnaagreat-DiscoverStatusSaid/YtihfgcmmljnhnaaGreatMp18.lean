/- Regions in any order: the semantics is sound. -/
import Derived.Test.YtihfgcmmljnhnaaGreatMp17
set_option linter.unusedVariables false
namespace Go.Mx
open Go.Eng

section
variable {P : Program} {e : Nat} {all : List Oper} {w0 : World} {m0 : Mp} {H0 : Hp} {base : Nat → V}
variable {L : List Nat} {val : Nat → V} {gh : Nat → Nat} {R : Nat → Bool} {env : Env e} {H : Hp} {m : Mp} {w : World} {renv : List Value} {call : Cal} {A : List (Nat × Nat)}

theorem first_late : ∀ {L : List Nat}, (∃ k ∈ L, R k = false) → ∃ L1 i L2, L = L1 ++ i :: L2 ∧ R i = false ∧ ∀ j ∈ L2, R j = true
  | [], ⟨k, hk, _⟩ => by cases hk
  | x :: L, ⟨k, hk, hR⟩ => by
    by_cases h : ∃ k ∈ L, R k = false
    · obtain ⟨L1, i, L2, h1, h2, h3⟩ := first_late h
      exact ⟨x :: L1, i, L2, by rw [h1]; rfl, h2, h3⟩
    · have hx : R x = false := by
        rcases List.mem_cons.1 hk with e | hk
        · rw [← e]; exact hR
        · exact absurd ⟨k, hk, hR⟩ h
      refine ⟨[], x, L, rfl, hx, fun j hj => ?_⟩
      cases hj2 : R j with
      | true => rfl
      | false => exact absurd ⟨j, hj, hj2⟩ h

/-- While something is left, something is ready. -/
theorem some_ready {rem : Plan} {E : Nat} (I : Inv P e all w0 m0 H0 base L val gh R env H m w renv) (hE : ∀ j, has E j = true ↔ j ∈ L) (hok : okGo all A rem E = true) (h : ∃ k, k < all.length ∧ R k = false) : ∃ i, i < all.length ∧ R i = false ∧ ∀ j ∈ depsI all i, R j = true := by
  by_cases hl : ∃ k ∈ L, R k = false
  · obtain ⟨L1, i, L2, h1, h2, h3⟩ := first_late hl
    exact ⟨i, I.lt i (by rw [h1]; simp), h2, fun j hj => h3 j ((I.lok L1 i L2 h1).2 j hj)⟩
  · have hall : ∀ k ∈ L, R k = true := fun k hk => by
      cases hj : R k with
      | true => rfl
      | false => exact absurd ⟨k, hk, hj⟩ hl
    obtain ⟨k, hk, hRk⟩ := h
    have hkL : k ∉ L := fun hh => by rw [hall k hh] at hRk; cases hRk
    cases rem with
    | nil =>
      unfold okGo at hok
      rw [List.all_eq_true] at hok
      exact absurd ((hE k).1 (hok k (List.mem_range.2 hk))) hkL
    | cons x p =>
      obtain ⟨i, ch⟩ := x
      obtain ⟨h1, h2, h3, _, _⟩ := okGo_cons hok
      refine ⟨i, h3, ?_, fun j hj => hall j ((hE j).1 (h2 j hj))⟩
      cases hj : R i with
      | false => rfl
      | true =>
        have := (hE i).2 (I.rl i hj)
        rw [h1] at this; cases this

/-- All is done. -/
theorem all_done {rem : Plan} {E : Nat} {K : Env e → Hp → Prop} (I : Inv P e all w0 m0 H0 base L val gh R env H m w renv) (hE : ∀ j, has E j = true ↔ j ∈ L) (hok : okGo all A rem E = true) (h : (stepsC P e all (stepsOf all rem)).go call env H K) (hR : ∀ k, k < all.length → R k = true) : Bh w0 m0 H0 K renv w := by
  cases rem with
  | nil =>
    refine ⟨m, env, H, I.le0, I.st, ⟨I.len, fun t ht => ?_⟩, I.gh0, h⟩
    have := I.slot t ht
    rw [I.envM t ht, curA, ← cur_congr (R := R) (fun j hj => hR j (I.lt j hj)) fun _ _ => rfl]
    exact this
  | cons x p =>
    obtain ⟨i, ch⟩ := x
    obtain ⟨h1, h2, h3, _, _⟩ := okGo_cons hok
    have := (hE i).2 (I.rl i (hR i h3))
    rw [h1] at this; cases this

theorem listed_get {listed : Array Bool} (hs : listed.size = all.length) {k : Nat} (hk : k < all.length) : listed.getD k true = listed.getD k false := by
  simp [Array.getD_eq_getD_getElem?, Array.getElem?_eq_getElem (show k < listed.size by omega)]

theorem mem_deps {i j : Nat} {o : Oper} (ho : all[i]? = some o) : j ∈ depsI all i ↔ ∃ x ∈ o.after, Region.binds .any x = true ∧ x.on = j := by
  unfold depsI depsO
  rw [ho]
  simp only [List.mem_map, List.mem_filter, Array.mem_toList_iff]
  constructor
  · rintro ⟨x, ⟨h1, h2⟩, h3⟩; exact ⟨x, h1, h2, h3⟩
  · rintro ⟨x, h1, h2, h3⟩; exact ⟨x, ⟨h1, h2⟩, h3⟩

theorem ready_iff {listed : Array Bool} (hs : listed.size = all.length) {i : Nat} : i ∈ Region.ready .any all.toArray listed ↔ i < all.length ∧ listed.getD i false = false ∧ ∀ j ∈ depsI all i, listed.getD j false = true := by
  rw [mem_ready]
  constructor
  · rintro ⟨h1, o, h2, h3⟩
    have h2 : all[i]? = some o := by simpa using h2
    have hi : i < all.length := by
      rcases Nat.lt_or_ge i all.length with h | h
      · exact h
      · rw [List.getElem?_eq_none h] at h2; cases h2
    refine ⟨hi, by rw [← listed_get hs hi]; exact h1, fun j hj => ?_⟩
    obtain ⟨x, hx, hb, rfl⟩ := (mem_deps h2).1 hj
    exact h3 x hx hb
  · rintro ⟨h1, h2, h3⟩
    obtain ⟨o, ho⟩ := get_lt h1
    exact ⟨by rw [listed_get hs h1]; exact h2, o, by simpa using ho, fun x hx hb => h3 _ ((mem_deps ho).2 ⟨x, hx, hb, rfl⟩)⟩

theorem set_get {listed : Array Bool} (hs : listed.size = all.length) {i : Nat} (hi : i < all.length) : (fun k => (listed.setIfInBounds i true).getD k false) = fun k => listed.getD k false || k == i := by
  funext k
  by_cases hk : k = i
  · subst hk
    simp [Array.getD_eq_getD_getElem?, show k < listed.size by omega]
  · have : i ≠ k := fun e => hk e.symm
    simp [Array.getD_eq_getD_getElem?, this, hk]

theorem count_set {listed : Array Bool} {i : Nat} {n : Nat} (hi : i < listed.size) (hf : listed.getD i false = false) (hc : listed.toList.count false = n + 1) : (listed.setIfInBounds i true).toList.count false = n := by
  have h1 : listed.toList[i]'(by simpa using hi) = false := by
    simpa [Array.getD_eq_getD_getElem?, Array.getElem?_eq_getElem hi] using hf
  rw [Array.toList_setIfInBounds, List.count_set (by simpa using hi), hc, h1]
  simp

theorem all_of_count {listed : Array Bool} (hs : listed.size = all.length) (hc : listed.toList.count false = 0) : ∀ k, k < all.length → listed.getD k false = true := by
  intro k hk
  have h1 : k < listed.size := by omega
  rw [Array.getD_eq_getD_getElem?, Array.getElem?_eq_getElem h1, Option.getD_some]
  cases h2 : listed[k] with
  | true => rfl
  | false =>
    exfalso
    rw [List.count_eq_zero] at hc
    exact hc (by rw [← h2]; simp)

theorem draw_main {Q : Exit → Act → World → Prop} {K : Env e → Hp → Prop} (he : e ≤ 16384) (hT : TmpOk all) (hA : AncT all A) (hC : CallOk P w0 call) (hQ : ∀ renv' w', Bh w0 m0 H0 K renv' w' → Q .normal (act renv') w') :
    ∀ (fuel : Nat) (listed : Array Bool) (rem : Plan) (E : Nat) (L : List Nat) (val : Nat → V) (gh : Nat → Nat) (env : Env e) (H : Hp) (m : Mp) (w : World) (renv : List Value),
    Inv P e all w0 m0 H0 base L val gh (fun k => listed.getD k false) env H m w renv → (∀ j, has E j = true ↔ j ∈ L) → okGo all A rem E = true → (∀ x ∈ rem, ∀ l ∈ x.2, okLd all A l = true) → (stepsC P e all (stepsOf all rem)).go call env H K →
    listed.size = all.length → listed.toList.count false = fuel → wpAny P .any all.toArray Q fuel listed (act renv) w
  | 0, listed, rem, E, L, val, gh, env, H, m, w, renv, I, hE, hok, hld, h, hs, hc => by
    have hall := all_of_count hs hc
    refine ⟨?_, hQ _ _ (all_done I hE hok h hall)⟩
    cases hr : Region.ready .any all.toArray listed with
    | nil => rfl
    | cons i l =>
      obtain ⟨h1, h2, _⟩ := (ready_iff hs).1 (show i ∈ Region.ready .any all.toArray listed by rw [hr]; simp)
      rw [hall i h1] at h2; cases h2
  | fuel + 1, listed, rem, E, L, val, gh, env, H, m, w, renv, I, hE, hok, hld, h, hs, hc => by
    refine ⟨fun hr => ?_, fun i hi => ?_⟩
    · refine hQ _ _ (all_done I hE hok h fun k hk => ?_)
      cases hR : listed.getD k false with
      | true => rfl
      | false =>
        exfalso
        obtain ⟨i, h1, h2, h3⟩ := some_ready I hE hok ⟨k, hk, hR⟩
        have := (ready_iff hs).2 ⟨h1, h2, h3⟩
        rw [hr] at this; cases this
    · obtain ⟨h1, h2, h3⟩ := (ready_iff hs).1 hi
      have hset := set_get (listed := listed) hs h1
      have hsz : (listed.setIfInBounds i true).size = all.length := by simpa using hs
      have hcnt := count_set (by omega) h2 hc
      -- M goes ahead
      obtain ⟨rem', E', L', val', gh', env', H', I', hE', hok', hld', h', hcase⟩ : ∃ (rem' : Plan) (E' : Nat) (L' : List Nat) (val' : Nat → V) (gh' : Nat → Nat) (env' : Env e) (H' : Hp), Inv P e all w0 m0 H0 base L' val' gh' (fun k => listed.getD k false) env' H' m w renv ∧ (∀ j, has E' j = true ↔ j ∈ L') ∧ okGo all A rem' E' = true ∧ (∀ x ∈ rem', ∀ l ∈ x.2, okLd all A l = true) ∧ (stepsC P e all (stepsOf all rem')).go call env' H' K ∧
          (i ∈ L' ∨ (i ∉ L' ∧ kindI all i = 3 ∧ ∃ ch p, rem' = (i, ch) :: p)) := by
        by_cases hiL : i ∈ L
        · exact ⟨rem, E, L, val, gh, env, H, I, hE, hok, hld, h, .inl hiL⟩
        · exact advance he hA h1 rem I hE hok hld h hiL h3
      rcases hcase with hiL | ⟨hiL, hk3, ch, p, rfl⟩
      · refine I'.replay hT hiL h2 h3 fun m2 w2 renv2 I2 => ?_
        exact draw_main he hT hA hC hQ fuel _ rem' E' L' val' gh' env' H' m2 w2 renv2 (by rw [hset]; exact I2) hE' hok' hld' h' hsz hcnt
      · obtain ⟨o, ho⟩ := get_lt h1
        rw [stepsOf_cons ho] at h'
        obtain ⟨q1, q2, q3, q4, q5⟩ := okGo_cons hok'
        refine both_wp he hT hA hC I' hiL h2 h1 h3 ho (by rw [← kindI_eq ho]; exact hk3) h' (fun k hk hRk hk1 => ?_) (hld' (i, ch) (by simp)) fun v env2 H2 m2 w2 renv2 I2 hn => ?_
        · rcases q4 hk3 k (I'.lt k hk) with ⟨_, h6⟩ | h6 | h6
          · rcases h6 hk1 with h7 | h7
            · have := (hA _ _ h7).ready (R := fun k => listed.getD k false = true) I'.closR h3
              rw [hRk] at this; cases this
            · exact h7
          · exact absurd (h6 ▸ hk) hiL
          · exfalso
            have := (hA _ _ h6).closed (R := fun k => k ∈ L') I'.lok.closed hk
            exact hiL this
        · have hE2 : ∀ j, has (add E' i) j = true ↔ j ∈ i :: L' := fun j => by
            rw [has_add, Bool.or_eq_true, decide_eq_true_eq, List.mem_cons, hE' j]
            exact or_comm
          exact draw_main he hT hA hC hQ fuel _ p (add E' i) (i :: L') _ gh' env2 H2 m2 w2 renv2 (by rw [hset]; exact I2) hE2 q5 (fun x hx => hld' x (List.mem_cons_of_mem _ hx)) hn hsz hcnt

theorem HR.keepN {B : Nat} {w w' : World} (h : HR m B w H) (hn : New w w') : HR m B w' H :=
  ⟨Nat.le_trans h.size hn.size, h.lim, h.unm, h.dead, fun o b N hm => ⟨(h.blk o b N hm).1, Nat.lt_of_lt_of_le (h.blk o b N hm).2 hn.size⟩, fun o wr n dp d b N hg hm => by
    obtain ⟨cs, T, h1, h2⟩ := h.ob o wr n dp d b N hg hm
    exact ⟨cs, T, hn.blk h1, h2⟩, h.inj⟩

/-- **Regions whose operations may come in any order do what the semantics says.** -/
theorem draw_ok (hm : P.follows .mixedOrders = true) : DrawOk P := by
  intro e he Z id ops w0 call env H K renv w m Q hok hC h hS hE hQ
  unfold okPlan at hok
  simp only [Bool.and_eq_true, List.all_eq_true] at hok
  obtain ⟨h1, h2, h3, _⟩ := hok
  have hA : AncT ops.toList (ancs ops.toList ((planOf Z id ops.toList.length).map (·.1)) []) := ancs_nil _
  have hT := okTmp_sound hA h2
  refine wp_region_any hm ?_
  have hS' : St w0 m w.drew H := ⟨hS.hr.keepN (new_drew w), hS.new.trans (new_drew w) fun _ _ hf => hf.elim⟩
  have hfalse : ∀ k, (Array.replicate ops.size false).getD k false = false := fun k => by
    rw [Array.getD_eq_getD_getElem?, Array.getElem?_replicate]
    split <;> rfl
  have key := draw_main (P := P) (all := ops.toList) (base := fun t => lget (dpN e) env t) (m0 := m) (H0 := H) (Q := Q) (K := K) he hT hA hC hQ ops.size (Array.replicate ops.size false) (planOf Z id ops.toList.length) 0 [] (fun _ => .c .un) (fun _ => 0) env H m w.drew renv
    { st := hS', le0 := Le.refl m, gh0 := Gh.refl m H, envM := fun _ _ => rfl, len := hE.len, slot := fun t ht => hE.slot t ht, lok := fun L1 i L2 e => (by cases L1 <;> cases e), lt := fun j hj => (by cases hj),
      rl := fun i hi => (by rw [hfalse] at hi; cases hi), closR := fun k hk => (by rw [hfalse] at hk; cases hk), cert := fun L1 i L2 e => (by cases L1 <;> cases e), ghd := fun i j hi => (by cases hi), ghs := fun i hi => (by cases hi) }
    (fun j => by rw [has_zero]; simp) h1 (fun x hx l hl => h3 x hx l hl) h (by simp) (by simp)
  simpa using key
end
end Go.Mx
