/- Regions in any order: M goes ahead, or with the program. -/
import Derived.Test.YtihfgcmmljnhnaaGreatMp15
set_option linter.unusedVariables false
namespace Go.Mx
open Go.Eng

def updN {α : Type} (f : Nat → α) (i : Nat) (v : α) : Nat → α := fun k => if k = i then v else f k
theorem updN_self {α : Type} (f : Nat → α) (i : Nat) (v : α) : updN f i v i = v := by unfold updN; rw [if_pos rfl]
theorem updN_ne {α : Type} (f : Nat → α) {i k : Nat} (v : α) (h : k ≠ i) : updN f i v k = f k := by unfold updN; rw [if_neg h]

section
variable {P : Program} {e : Nat} {all : List Oper} {w0 : World} {m0 : Mp} {H0 : Hp} {base : Nat → V}
variable {L : List Nat} {val : Nat → V} {gh : Nat → Nat} {R : Nat → Bool} {env : Env e} {H : Hp} {m : Mp} {w : World} {renv : List Value}

theorem HR.ghost {B : Nat} {b : Ob} (h : HR m B w H) (hn : H.next ≤ 16383) : HR m B w ⟨H.next + 1, lset 7 H.t H.next b⟩ := by
  have get : ∀ o, o < 16384 → lget 7 (lset 7 H.t H.next b) o = if o = H.next then b else lget 7 H.t o := fun o ho => lget_lset 7 _ _ _ _ (by rw [← hlim]; omega) (by rw [← hlim]; exact ho)
  have key : ∀ {o wr n' dp' d' p}, lget 7 (lset 7 H.t H.next b) o = .ob wr n' dp' d' → m o = some p → lget 7 H.t o = .ob wr n' dp' d' := by
    intro o wr n' dp' d' p hg' ho
    have hlt := h.lt ho
    rw [get o (by omega), if_neg (by omega)] at hg'
    exact hg'
  refine ⟨h.size, by show H.next + 1 ≤ 16384; omega, fun o ho => h.unm o (Nat.le_trans (Nat.le_succ _) ho), ?_, h.blk, ?_, ?_⟩
  · intro o ho hlt
    have ho : H.next + 1 ≤ o := ho
    show lget 7 (lset 7 H.t H.next b) o = .dead
    rw [get o hlt, if_neg (by omega)]
    exact h.dead o (by omega) hlt
  · intro o wr n' dp' d' b' N' hg' ho
    exact h.ob o wr n' dp' d' b' N' (key hg' ho) ho
  · intro o o' wr1 n1 dp1 d1 wr2 n2 dp2 d2 b' N1 N2 hg1 hg2 ho ho'
    exact h.inj o o' _ _ _ _ _ _ _ _ _ _ _ (key hg1 ho) (key hg2 ho') ho ho'

theorem ghost_gh {b : Ob} (h : H.next ≤ 16383) : Gh m m H ⟨H.next + 1, lset 7 H.t H.next b⟩ := by
  refine ⟨Nat.le_succ _, fun o ho hn => ⟨hn, ?_⟩⟩
  show lget 7 (lset 7 H.t H.next b) o = _
  rw [lget_lset 7 _ _ _ _ (by rw [← hlim]; omega) (by rw [← hlim]; omega), if_neg (by omega)]

theorem curA_upd {i : Nat} {v : V} {M : List Nat} (h : i ∉ M) (R : Nat → Bool) (t : Nat) : cur all (updN val i v) base R M t = cur all val base R M t :=
  cur_congr (fun _ _ => rfl) fun j hj => updN_ne _ _ fun e => h (e ▸ hj)

/-- M goes ahead. -/
theorem Inv.ahead (I : Inv P e all w0 m0 H0 base L val gh R env H m w renv) {i : Nat} {o : Oper} {v : V} {g : Nat} {env' : Env e} {H' : Hp} (hi : i ∉ L) (hlt : i < all.length) (hd : ∀ j ∈ depsI all i, j ∈ L) (ho : all[i]? = some o)
    (henv : ∀ t, t < e → lget (dpN e) env' t = if o.dst = some t then v else lget (dpN e) env t) (hH : H' = H ∨ (H.next ≤ 16383 ∧ ∃ b, H' = ⟨H.next + 1, lset 7 H.t H.next b⟩))
    (hg2 : kindO o.op = 2 → (g = H.next ∧ H.next < H'.next) ∨ g = 20000 + i) (hct : Ct P e all H0 env H' m g o v) : Inv P e all w0 m0 H0 base (i :: L) (updN val i v) (updN gh i g) R env' H' m w renv := by
  have hRi : R i = false := by
    cases h : R i with
    | true => exact absurd (I.rl i h) hi
    | false => rfl
  have hne : ∀ k ∈ L, k ≠ i := fun k hk e => hi (e ▸ hk)
  have hGh : Gh m m H H' := by
    rcases hH with rfl | ⟨hn, b, rfl⟩
    · exact Gh.refl m _
    · exact ghost_gh hn
  have hlim' := I.st.hr.lim
  refine ⟨?_, I.le0, I.gh0.trans hGh, ?_, I.len, ?_, I.lok.cons hi hd, ?_, fun k hk => List.mem_cons_of_mem _ (I.rl k hk), I.closR, ?_, ?_, ?_⟩
  · rcases hH with rfl | ⟨hn, b, rfl⟩
    · exact I.st
    · exact ⟨I.st.hr.ghost hn, I.st.new⟩
  · intro t ht
    rw [henv t ht]
    by_cases hdt : o.dst = some t
    · rw [if_pos hdt, curA, cur_hit rfl (by rw [dstOf_eq ho]; exact hdt), updN_self]
    · rw [if_neg hdt, curA, cur_miss (fun _ => by rw [dstOf_eq ho]; exact hdt), curA_upd hi, I.envM t ht]
  · intro t ht
    rw [cur_miss (fun h => by rw [hRi] at h; cases h), curA_upd hi]
    exact I.slot t ht
  · intro j hj
    rcases List.mem_cons.1 hj with rfl | hj
    · exact hlt
    · exact I.lt j hj
  · intro M1 k M2 e1 hk
    cases M1 with
    | nil =>
      simp only [List.nil_append, List.cons.injEq] at e1
      obtain ⟨rfl, rfl⟩ := e1
      refine ⟨o, env, ho, fun t ht => ?_, ?_⟩
      · rw [curA, curA_upd hi]; exact I.envM t ht
      · rw [updN_self, updN_self]; exact hct
    | cons x M1 =>
      simp only [List.cons_append, List.cons.injEq] at e1
      obtain ⟨rfl, e1⟩ := e1
      have hkL : k ∈ L := by rw [e1]; simp
      obtain ⟨ok, env_k, hok, henvk, hct'⟩ := I.cert M1 k M2 e1 hk
      refine ⟨ok, env_k, hok, fun t ht => ?_, ?_⟩
      · rw [curA, curA_upd (M := M2) (fun h => hi (by rw [e1]; simp [h]))]
        exact henvk t ht
      · rw [updN_ne _ _ (hne k hkL), updN_ne _ _ (hne k hkL)]
        rcases hct' with hct' | ⟨hg, hct' | ⟨hct', hk1⟩ | ⟨hk2, a1, a2, a3, b, f, a4, a5, a6⟩⟩
        · exact .inl hct'
        · exact .inr ⟨hg, .inl hct'⟩
        · refine .inr ⟨hg, .inr (.inl ⟨?_, hk1⟩)⟩
          rcases hH with rfl | ⟨hn, b, rfl⟩
          · exact hct'
          · exact hct'.add I.st.hr hn
        · exact .inr ⟨hg, .inr (.inr ⟨hk2, a1, Nat.lt_of_lt_of_le a2 hGh.1, a3, b, f, a4, a5, by rw [(hGh.2 _ a2 a3).2]; exact a6⟩)⟩
  · intro k j hk hj hRk hRj hk2 hj2 heq
    rcases List.mem_cons.1 hk with hki | hkL
    · rcases List.mem_cons.1 hj with hji | hjL
      · rw [hki, hji]
      · exfalso
        subst hki
        rw [updN_self, updN_ne _ _ (hne j hjL)] at heq
        rcases hg2 (by rw [← kindI_eq ho]; exact hk2) with ⟨e1, _⟩ | e1 <;> rcases I.ghs j hjL hRj hj2 with e2 | e2
        · omega
        · omega
        · omega
        · exact hne j hjL (by omega)
    · rcases List.mem_cons.1 hj with hji | hjL
      · exfalso
        subst hji
        rw [updN_self, updN_ne _ _ (hne k hkL)] at heq
        rcases hg2 (by rw [← kindI_eq ho]; exact hj2) with ⟨e1, _⟩ | e1 <;> rcases I.ghs k hkL hRk hk2 with e2 | e2
        · omega
        · omega
        · omega
        · exact hne k hkL (by omega)
      · rw [updN_ne _ _ (hne k hkL), updN_ne _ _ (hne j hjL)] at heq
        exact I.ghd k j hkL hjL hRk hRj hk2 hj2 heq
  · intro k hk hRk hk2
    rcases List.mem_cons.1 hk with hki | hkL
    · subst hki
      rw [updN_self]
      rcases hg2 (by rw [← kindI_eq ho]; exact hk2) with ⟨e1, e2⟩ | e1
      · exact .inl (by omega)
      · exact .inr e1
    · rw [updN_ne _ _ (hne k hkL)]
      rcases I.ghs k hkL hRk hk2 with e2 | e2
      · exact .inl (Nat.lt_of_lt_of_le e2 hGh.1)
      · exact .inr e2

/-- M and the program go together. -/
theorem Inv.both (I : Inv P e all w0 m0 H0 base L val gh R env H m w renv) {i : Nat} {o : Oper} {v : V} {rv : Value} {env' : Env e} {H' : Hp} {m' : Mp} {w' : World} (hi : i ∉ L) (hlt : i < all.length) (hr : ∀ j ∈ depsI all i, R j = true) (ho : all[i]? = some o)
    (henv : ∀ t, t < e → lget (dpN e) env' t = if o.dst = some t then v else lget (dpN e) env t) (hle : Le m m') (hv : VR m' v rv) (hS : St w0 m' w' H') (hGh : Gh m m' H H')
    (hld : ∀ L1 k L2 ok env_k, L = L1 ++ k :: L2 → all[k]? = some ok → R k = false → kindO ok.op = 1 → (∀ t, t < e → lget (dpN e) env_k t = curA all val base L2 t) → LdSem P e env_k ok H (val k) → LdSem P e env_k ok H' (val k)) :
    Inv P e all w0 m0 H0 base (i :: L) (updN val i v) gh (fun k => R k || k == i) env' H' m' w' (put renv o.dst rv) := by
  have hne : ∀ k ∈ L, k ≠ i := fun k hk e => hi (e ▸ hk)
  have hRf : ∀ k, (R k || k == i) = false → R k = false ∧ k ≠ i := fun k hk => by simpa using hk
  have hRL : ∀ j ∈ L, (R j || j == i) = R j := fun j hj => by simp [hne j hj]
  have inL : ∀ k, k ∈ i :: L → k ≠ i → k ∈ L := fun k hk hki => by
    rcases List.mem_cons.1 hk with h | h
    · exact absurd h hki
    · exact h
  refine ⟨hS, I.le0.trans hle, I.gh0.trans hGh, ?_, ?_, ?_, I.lok.cons hi fun j hj => I.rl j (hr j hj), ?_, ?_, ?_, ?_, ?_, ?_⟩
  · intro t ht
    rw [henv t ht]
    by_cases hdt : o.dst = some t
    · rw [if_pos hdt, curA, cur_hit rfl (by rw [dstOf_eq ho]; exact hdt), updN_self]
    · rw [if_neg hdt, curA, cur_miss (fun _ => by rw [dstOf_eq ho]; exact hdt), curA_upd hi, I.envM t ht]
  · cases hd : o.dst with
    | none => exact I.len
    | some d => show (renv.set d rv).length = e; rw [List.length_set]; exact I.len
  · intro t ht
    by_cases hd : o.dst = some t
    · rw [cur_hit (R := fun k => R k || k == i) (by simp) (by rw [dstOf_eq ho]; exact hd), updN_self, hd]
      show VR m' v ((renv.set t rv).getD t undef)
      rw [List.getD_eq_getElem?_getD, List.getElem?_set, if_pos rfl, if_pos (by rw [I.len]; exact ht)]
      exact hv
    · rw [cur_miss (R := fun k => R k || k == i) (fun _ => by rw [dstOf_eq ho]; exact hd), curA_upd hi, cur_congr (R' := R) hRL fun _ _ => rfl]
      have h1 := (I.slot t ht).mono hle
      cases hd2 : o.dst with
      | none => exact h1
      | some d =>
        show VR m' _ ((renv.set d rv).getD t undef)
        rw [List.getD_eq_getElem?_getD, List.getElem?_set, if_neg (fun e => hd (by rw [hd2, e])), ← List.getD_eq_getElem?_getD]
        exact h1
  · intro j hj
    rcases List.mem_cons.1 hj with rfl | hj
    · exact hlt
    · exact I.lt j hj
  · intro k hk
    simp only [Bool.or_eq_true, beq_iff_eq] at hk
    rcases hk with h | rfl
    · exact List.mem_cons_of_mem _ (I.rl k h)
    · simp
  · intro k hk j hj
    simp only [Bool.or_eq_true, beq_iff_eq] at hk
    rcases hk with h | rfl
    · simp [I.closR k h j hj]
    · simp [hr j hj]
  · intro M1 k M2 e1 hk
    obtain ⟨h1, h2⟩ := hRf k hk
    cases M1 with
    | nil =>
      simp only [List.nil_append, List.cons.injEq] at e1
      exact absurd e1.1.symm h2
    | cons x M1 =>
      simp only [List.cons_append, List.cons.injEq] at e1
      obtain ⟨rfl, e1⟩ := e1
      obtain ⟨ok, env_k, hok, henvk, hct'⟩ := I.cert M1 k M2 e1 h1
      refine ⟨ok, env_k, hok, fun t ht => ?_, ?_⟩
      · rw [curA, curA_upd (M := M2) (fun h => hi (by rw [e1]; simp [h]))]
        exact henvk t ht
      · rw [updN_ne _ _ h2]
        rcases hct' with hct' | ⟨hg, hct' | ⟨hct', hk1⟩ | ⟨hk2, a1, a2, a3, b, f, a4, a5, a6⟩⟩
        · exact .inl hct'
        · exact .inr ⟨hg, .inl hct'⟩
        · exact .inr ⟨hg, .inr (.inl ⟨hld M1 k M2 ok env_k e1 hok h1 hk1 henvk hct', hk1⟩)⟩
        · exact .inr ⟨hg, .inr (.inr ⟨hk2, a1, Nat.lt_of_lt_of_le a2 hGh.1, (hGh.2 _ a2 a3).1, b, f, a4, a5, by rw [(hGh.2 _ a2 a3).2]; exact a6⟩)⟩
  · intro k j hk hj hRk hRj
    obtain ⟨h1, h2⟩ := hRf k hRk
    obtain ⟨h3, h4⟩ := hRf j hRj
    exact I.ghd k j (inL k hk h2) (inL j hj h4) h1 h3
  · intro k hk hRk hk2
    obtain ⟨h1, h2⟩ := hRf k hRk
    rcases I.ghs k (inL k hk h2) h1 hk2 with e2 | e2
    · exact .inl (Nat.lt_of_lt_of_le e2 hGh.1)
    · exact .inr e2

/-! ### A step of M -/

theorem chkN_sound {l : List Nat} {nx : CdR e} {call : Cal} {K : Env e → Hp → Prop} (h : (chkN P e all l nx).go call env H K) : nx call env H K ∧ ∀ i ∈ l, ∃ o d, all[i]? = some o ∧ o.dst = some d ∧ d < e ∧ LdSem P e env o H (lget (dpN e) env d) := by
  unfold chkN at h
  split at h
  · exact ⟨h, fun i hi => by cases hi⟩
  · rw [bind_go, mk_go] at h
    exact chkC_sound h

theorem then_cases {o : Oper} {r : OpR e} {nx : CdR e} {call : Cal} {K : Env e → Hp → Prop} (h : (thenC P e all o r nx).go call env H K) :
    (GdRun all e env o ∧ r call env H fun v H => (putC e o.dst).go env v fun env => nx call env H K) ∨ (GdSkip all e env o ∧ (putC e o.dst).go env (.c .un) fun env => nx call env H K) := by
  unfold thenC at h
  split at h
  · rename_i hg
    rw [bind_go, mk_go] at h
    exact .inl ⟨.inl hg, h⟩
  · rename_i j want hg
    split at h
    · rename_i d hd
      rw [bind_go, bind_go, mk_go] at h
      obtain ⟨hde, h1⟩ := getE_iff h
      rcases gdK_iff h1 with ⟨hx, h2⟩ | ⟨b, hx, ⟨hb, h2⟩ | ⟨hb, h2⟩⟩
      · exact .inr ⟨⟨j, want, d, hg, hd, hde, .inl hx⟩, h2⟩
      · exact .inl ⟨.inr ⟨j, want, d, hg, hd, hde, by rw [hx, hb]⟩, h2⟩
      · exact .inr ⟨⟨j, want, d, hg, hd, hde, .inr ⟨b, hx, hb⟩⟩, h2⟩
    · exact h.elim

theorem putC_env (he : e ≤ 16384) {d : Option Tmp} {v : V} {K : Env e → Prop} (h : (putC e d).go env v K) : ∃ env', K env' ∧ ∀ t, t < e → lget (dpN e) env' t = if d = some t then v else lget (dpN e) env t := by
  cases d with
  | none => exact ⟨env, h, fun t _ => by simp⟩
  | some d =>
    obtain ⟨ht, hk⟩ := setE_iff (show (setE e d).go env v K from h)
    refine ⟨_, hk, fun t hte => ?_⟩
    have hdp := dpN_le he
    rw [lget_lset _ _ _ _ _ (by omega) (by omega)]
    by_cases hd : t = d
    · subst hd; rw [if_pos rfl, if_pos rfl]
    · rw [if_neg hd, if_neg fun e => hd (by simpa using e.symm)]

theorem stepsC_cons {s : Step} {l : List Step} {call : Cal} {K : Env e → Hp → Prop} (h : (stepsC P e all (s :: l)).go call env H K) : (thenC P e all s.o (opD P e s.o.op).go (chkN P e all s.chk (stepsC P e all l).go).go).go call env H K := by
  have h0 : ((opD P e s.o.op).bind fun r => (stepsC P e all l).bind fun nx => (chkN P e all s.chk nx).bind fun nx => thenC P e all s.o r nx).go call env H K := h
  rw [bind_go, bind_go, bind_go] at h0
  exact h0

/-- A step that is no store and no call. -/
theorem step_ahead (he : e ≤ 16384) {s : Step} {l : List Step} {call : Cal} {K : Env e → Hp → Prop} {B : Nat} (hHR : HR m B w H) (hG : Gh m0 m H0 H) (hk : kindO s.o.op ≠ 3) (h : (stepsC P e all (s :: l)).go call env H K) :
    ∃ v g env' H', (stepsC P e all l).go call env' H' K ∧ (∀ t, t < e → lget (dpN e) env' t = if s.o.dst = some t then v else lget (dpN e) env t) ∧ (H' = H ∨ (H.next ≤ 16383 ∧ ∃ b, H' = ⟨H.next + 1, lset 7 H.t H.next b⟩)) ∧
      (kindO s.o.op = 2 → (g = H.next ∧ H.next < H'.next) ∨ g = 20000 + s.i) ∧ Ct P e all H0 env H' m g s.o v := by
  rcases then_cases (stepsC_cons h) with ⟨hg, h1⟩ | ⟨hg, h1⟩
  · unfold opD at h1
    split at h1
    · rename_i hk0
      rw [bind_go, mk_go] at h1
      obtain ⟨v, h2, hP⟩ := pureC_sound h1
      obtain ⟨env', h3, h4⟩ := putC_env he h2
      exact ⟨v, 0, env', H, (chkN_sound h3).1, h4, .inl rfl, fun hh => (by rw [hk0] at hh; cases hh), .inr ⟨hg, .inl hP⟩⟩
    · rename_i hk1
      split at h1
      · rename_i t x ho
        rw [bind_go, mk_go] at h1
        obtain ⟨v, h2, hL⟩ := LdSem.of ho h1
        obtain ⟨env', h3, h4⟩ := putC_env he h2
        exact ⟨v, 0, env', H, (chkN_sound h3).1, h4, .inl rfl, fun hh => (by rw [hk1] at hh; cases hh), .inr ⟨hg, .inr (.inl ⟨hL, hk1⟩)⟩⟩
      · exact h1.elim
    · rename_i hk2
      rw [bind_go, mk_go] at h1
      obtain ⟨b, f, h2, hF⟩ := freshC_sound h1
      obtain ⟨hn, h3⟩ := newK_iff h2
      obtain ⟨env', h4, h5⟩ := putC_env he h3
      refine ⟨f H.next, H.next, env', _, (chkN_sound h4).1, h5, .inr ⟨hn, b, rfl⟩, fun _ => .inl ⟨rfl, Nat.lt_succ_self _⟩, .inr ⟨hg, .inr (.inr ⟨hk2, hG.1, Nat.lt_succ_self _, hHR.unm _ (Nat.le_refl _), b, f, hF, rfl, ?_⟩)⟩⟩
      show lget 7 (lset 7 H.t H.next b) H.next = b
      rw [lget_lset 7 _ _ _ _ (by rw [← hlim]; omega) (by rw [← hlim]; omega), if_pos rfl]
    · exfalso
      rename_i h0' h1' h2'
      have : kindO s.o.op = 0 ∨ kindO s.o.op = 1 ∨ kindO s.o.op = 2 ∨ kindO s.o.op = 3 := by
        unfold kindO
        split <;> simp
      rcases this with h | h | h | h
      · exact h0' h
      · exact h1' h
      · exact h2' h
      · exact hk h
  · obtain ⟨env', h3, h4⟩ := putC_env he h1
    exact ⟨.c .un, 20000 + s.i, env', H, (chkN_sound h3).1, h4, .inl rfl, fun _ => .inr rfl, .inl ⟨hg, rfl⟩⟩
end
end Go.Mx
