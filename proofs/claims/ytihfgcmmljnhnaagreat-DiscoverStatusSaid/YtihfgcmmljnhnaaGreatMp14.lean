/- Regions in any order: loads that are looked at again, new objects that come late. -/
import Derived.Test.YtihfgcmmljnhnaaGreatMp13
set_option linter.unusedVariables false
namespace Go.Mx
open Go.Eng

theorem sameC_iff {x y : C} {K : Prop} (h : sameC x y K) : x = y ∧ stC x = true ∧ K := by
  unfold sameC at h
  split at h
  · rename_i a b
    cases a <;> cases b <;> first | exact ⟨rfl, rfl, h⟩ | exact h.elim
  · obtain ⟨h1, h2⟩ := iff_t h
    obtain ⟨h3, h4⟩ := iff_t h2
    rw [eqI_eq, beq_iff_eq] at h3
    rw [Nat.eq_of_beq_eq_true h1, h3]
    exact ⟨rfl, rfl, h4⟩
  · exact ⟨rfl, rfl, h⟩
  · obtain ⟨h1, h2⟩ := iff_t h
    obtain ⟨h3, h4⟩ := iff_t h2
    rw [Nat.eq_of_beq_eq_true h1, Nat.eq_of_beq_eq_true h3]
    exact ⟨rfl, rfl, h4⟩
  · exact ⟨rfl, rfl, h⟩
  · obtain ⟨h1, h2⟩ := iff_t h
    obtain ⟨h3, h4⟩ := iff_t h2
    obtain ⟨h5, h6⟩ := iff_t h4
    obtain ⟨h7, h8⟩ := iff_t h6
    rw [Nat.eq_of_beq_eq_true h1, Nat.eq_of_beq_eq_true h3, Nat.eq_of_beq_eq_true h5, Nat.eq_of_beq_eq_true h7]
    exact ⟨rfl, rfl, h8⟩
  · obtain ⟨h1, h2⟩ := iff_t h
    obtain ⟨h3, h4⟩ := iff_t h2
    obtain ⟨h5, h6⟩ := iff_t h4
    obtain ⟨h7, h8⟩ := iff_t h6
    obtain ⟨h9, h10⟩ := iff_t h8
    rw [Nat.eq_of_beq_eq_true h1, Nat.eq_of_beq_eq_true h3, Nat.eq_of_beq_eq_true h5, Nat.eq_of_beq_eq_true h7, Nat.eq_of_beq_eq_true h9]
    exact ⟨rfl, rfl, h10⟩
  · exact h.elim

theorem sameL_iff : ∀ {l l' : List C} {K : Prop}, sameL l l' K → l = l' ∧ K
  | [], [], K, h => ⟨rfl, h⟩
  | x :: xs, y :: ys, K, h => by
    obtain ⟨h1, _, h2⟩ := sameC_iff (show sameC x y (sameL xs ys K) from h)
    obtain ⟨h3, h4⟩ := sameL_iff h2
    rw [h1, h3]
    exact ⟨rfl, h4⟩
  | [], _ :: _, _, h => h.elim
  | _ :: _, [], _, h => h.elim

theorem sameV_sound {x y : V} {K : Prop} (h : sameV x y K) : K ∧ ∀ m rv, VR m y rv → VR m x rv := by
  cases x with
  | c c =>
    obtain ⟨c', rfl, h1⟩ := onC_iff (show onC y fun c' => sameC c c' K from h)
    obtain ⟨rfl, _, h2⟩ := sameC_iff h1
    exact ⟨h2, fun m rv hv => hv⟩
  | a dp d o n =>
    obtain ⟨dp', d', o', n', rfl, h1⟩ := onA_iff (show onA y fun dp' d' o' n' => iff (Nat.beq n n') (iff (Nat.ble (Nat.add o n) (Nat.pow 4 dp)) (cellsK dp d n o fun l => cellsK dp' d' n' o' fun l' => sameL l l' K) False) False from h)
    obtain ⟨hn, h2⟩ := iff_t h1
    obtain ⟨hle, h3⟩ := iff_t h2
    have hn := beq_eq hn
    have hle : o + n ≤ 4 ^ dp := ble_le hle
    subst hn
    rw [cellsK_iff, cellsK_iff] at h3
    obtain ⟨hl, h4⟩ := sameL_iff h3
    refine ⟨h4, fun m rv hv => ?_⟩
    obtain ⟨cs, e1, e2, e3⟩ := hv
    refine ⟨cs, e1, e2, by omega, fun i u hi => ?_⟩
    have hil : i < cs.length := by
      rcases Nat.lt_or_ge i cs.length with h | h
      · exact h
      · rw [List.getElem?_eq_none h] at hi; cases hi
    have q1 := get_lcells dp d n o i (by omega)
    have q2 := get_lcells dp' d' n o' i (by omega)
    rw [hl, q2] at q1
    simp only [Option.some.injEq] at q1
    rw [← q1]
    exact e3.2 i u hi
  | t l => exact h.elim

section
variable {P : Program} {e : Nat} {env : Env e} {o : Oper} {w0 : World} {m : Mp} {w w' : World} {H : Hp} {renv : List Value}

/-- What a load yields as long as an object is as it is. -/
def LdSem (P : Program) (e : Nat) (env : Env e) (o : Oper) (H : Hp) (v : V) : Prop :=
  ∃ ob wr n dp d, lget 7 H.t ob = .ob wr n dp d ∧ ∀ H2 m B w renv, lget 7 H2.t ob = .ob wr n dp d → HR m B w H2 → OpsR m e env renv o.op.operands.toList → ∃ rv, (∀ w2, w2 = w → (execOp (ev renv) o).run P w2 = .ok (.value rv) w2) ∧ VR m v rv

theorem LdSem.of {t : TypeId} {x : Operand} {K : V → Prop} (ho : o.op = .load t x) (h : (loadC P e t x).go env H K) : ∃ v, K v ∧ LdSem P e env o H v := by
  obtain ⟨v, ob, wr, n, dp, d, hg, hk, hl⟩ := loadC_obj h
  refine ⟨v, hk, ob, wr, n, dp, d, hg, fun H2 m B w renv hg2 hH hr => ?_⟩
  obtain ⟨rv, hrun, hv⟩ := hl H2 m B w renv hg2 hH (by rintro y rfl; exact hr (.tmp y) (by rw [ho]; simp [Op.operands]) y rfl)
  have he : execOp (ev renv) o = (do pure (.value (← Instr.loadAt t (ev renv x)))) := by unfold execOp; rw [ho]
  refine ⟨rv, ?_, hv⟩
  rintro _ rfl
  rw [he, Sem.run_bind, hrun]
  rfl

theorem LdSem.same {x y : V} (h : LdSem P e env o H y) (hs : ∀ m rv, VR m y rv → VR m x rv) : LdSem P e env o H x := by
  obtain ⟨ob, wr, n, dp, d, hg, hl⟩ := h
  refine ⟨ob, wr, n, dp, d, hg, fun H2 m B w renv hg2 hH hr => ?_⟩
  obtain ⟨rv, hrun, hv⟩ := hl H2 m B w renv hg2 hH hr
  exact ⟨rv, hrun, hs _ _ hv⟩

theorem lget_mod {β : Type} : ∀ (n : Nat) (t : Lv β n) (k : Nat), lget n t k = lget n t (k % 4 ^ n)
  | 0, _, _ => rfl
  | n + 1, t, k => by
    show lget n (sel t (k % 4)) (k / 4) = lget n (sel t (k % 4 ^ (n + 1) % 4)) (k % 4 ^ (n + 1) / 4)
    have h1 : 4 ^ (n + 1) = 4 * 4 ^ n := by rw [Nat.pow_succ, Nat.mul_comm]
    rw [h1, Nat.mod_mul_right_div_self, Nat.mod_mul_right_mod, lget_mod n _ (k / 4)]

/-- A new object does not touch what a load has seen. -/
theorem LdSem.add {v : V} {b : Ob} {B : Nat} (h : LdSem P e env o H v) (hH : HR m B w H) (hn : H.next ≤ 16383) : LdSem P e env o ⟨H.next + 1, lset 7 H.t H.next b⟩ v := by
  obtain ⟨ob, wr, n, dp, d, hg, hl⟩ := h
  refine ⟨ob, wr, n, dp, d, ?_, hl⟩
  show lget 7 (lset 7 H.t H.next b) ob = _
  rw [lget_mod, ← hlim] at hg ⊢
  have hlt := Nat.mod_lt ob (show 16384 > 0 by omega)
  rw [lget_lset 7 _ _ _ _ (by rw [← hlim]; omega) (by rw [← hlim]; exact hlt)]
  split
  · rename_i he
    rw [he, hH.dead H.next (Nat.le_refl _) (by omega)] at hg
    cases hg
  · exact hg

/-- What is looked at again. -/
theorem chkC_sound {all : List Oper} : ∀ {l : List Nat} {X : Prop}, (chkC P e all l).go env H X → X ∧ ∀ i ∈ l, ∃ o d, all[i]? = some o ∧ o.dst = some d ∧ d < e ∧ LdSem P e env o H (lget (dpN e) env d)
  | [], X, h => ⟨h, fun i hi => by cases hi⟩
  | i :: l, X, h => by
    have h0 : (match all[i]? with
      | some o => (match o.op, o.dst with
        | .load t x, some d => (loadC P e t x).bind fun g => (getE e d).bind fun h => (chkC P e all l).bind fun nx => ⟨fun env H K => g env H fun v => h env fun u => sameV u v (nx env H K)⟩
        | _, _ => ⟨fun _ _ _ => False⟩)
      | none => ⟨fun _ _ _ => False⟩ : Bx (Env e → Hp → Prop → Prop)).go env H X := h
    split at h0
    · rename_i o hi
      split at h0
      · rename_i t x d hop hdst
        rw [bind_go, bind_go, bind_go, mk_go] at h0
        obtain ⟨v, h1, hL⟩ := LdSem.of hop h0
        obtain ⟨hd, h2⟩ := getE_iff h1
        obtain ⟨h3, hs⟩ := sameV_sound h2
        obtain ⟨h4, h5⟩ := chkC_sound h3
        refine ⟨h4, fun k hk => ?_⟩
        rcases List.mem_cons.1 hk with rfl | hk
        · exact ⟨o, d, hi, hdst, hd, hL.same hs⟩
        · exact h5 k hk
      · exact h0.elim
    · exact h0.elim

/-- An object that is there gets its block. -/
theorem HR.bind {B g b N n dp : Nat} {wr : Bool} {d : Lv C dp} {cs : List Value} {T : TypeId} (h : HR m B w H) (hl : g < H.next) (hg : lget 7 H.t g = .ob wr n dp d) (hm : m g = none) (hk : Keep (fun k => k = b) w w') (hB : B ≤ b) (hblk : Blk w' b cs T) (hcl : cs.length = N) (hnN : n ≤ N) (hdp : n ≤ 4 ^ dp)
    (htr : TR m dp d 0 (cs.take n)) (hfree : ∀ o wr n dp d N, lget 7 H.t o = .ob wr n dp d → m o ≠ some (b, N)) : HR (mset m g (b, N)) B w' H := by
  have old : ∀ {o p}, mset m g (b, N) o = some p → o ≠ g → m o = some p := by
    intro o p ho hne
    unfold mset at ho
    rw [if_neg hne] at ho
    exact ho
  have new : ∀ {p}, mset m g (b, N) g = some p → p = (b, N) := by
    intro p hp
    unfold mset at hp
    rw [if_pos rfl] at hp
    simpa using hp.symm
  refine ⟨Nat.le_trans h.size hk.size, h.lim, ?_, h.dead, ?_, ?_, ?_⟩
  · intro o ho
    unfold mset
    rw [if_neg (by omega)]
    exact h.unm o ho
  · intro o b' N' ho
    by_cases hne : o = g
    · subst hne
      have := new ho
      simp only [Prod.mk.injEq] at this
      obtain ⟨rfl, rfl⟩ := this
      exact ⟨hB, hblk.lt⟩
    · obtain ⟨h1, h2⟩ := h.blk o b' N' (old ho hne)
      exact ⟨h1, Nat.lt_of_lt_of_le h2 hk.size⟩
  · intro o wr n' dp' d' b' N' hg' ho
    by_cases hne : o = g
    · subst hne
      rw [hg] at hg'
      have := new ho
      simp only [Prod.mk.injEq] at this
      obtain ⟨rfl, rfl⟩ := this
      cases hg'
      exact ⟨cs, T, hblk, hcl, hnN, hdp, htr.mono (mset_le hm)⟩
    · obtain ⟨cs', T', h1, h2, h3, h4, h5⟩ := h.ob o wr n' dp' d' b' N' hg' (old ho hne)
      have hbb : b' ≠ b := by
        rintro rfl
        exact hfree o _ _ _ _ N' hg' (old ho hne)
      exact ⟨cs', T', hk.blk h1 hbb, h2, h3, h4, h5.mono (mset_le hm)⟩
  · intro o o' wr n' dp' d' wr' n'' dp'' d'' b' N' N'' hg1 hg2 ho ho'
    by_cases hne : o = g
    · by_cases hne' : o' = g
      · rw [hne, hne']
      · exfalso
        subst hne
        have := new ho
        simp only [Prod.mk.injEq] at this
        obtain ⟨rfl, rfl⟩ := this
        exact hfree o' _ _ _ _ _ hg2 (old ho' hne')
    · by_cases hne' : o' = g
      · exfalso
        subst hne'
        have := new ho'
        simp only [Prod.mk.injEq] at this
        obtain ⟨rfl, rfl⟩ := this
        exact hfree o _ _ _ _ _ hg1 (old ho hne)
      · exact h.inj o o' _ _ _ _ _ _ _ _ _ _ _ hg1 hg2 (old ho hne) (old ho' hne')
end
end Go.Mx
