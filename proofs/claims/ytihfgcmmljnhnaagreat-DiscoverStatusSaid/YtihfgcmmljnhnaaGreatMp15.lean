/- Regions in any order: the program behind M. -/
import Derived.Test.YtihfgcmmljnhnaaGreatMp14
set_option linter.unusedVariables false
namespace Go.Mx
open Go.Eng

section
variable {P : Program} {e : Nat} {all : List Oper} {w0 : World} {m0 : Mp} {H0 : Hp} {base : Nat → V}

def GdSkip (all : List Oper) (e : Nat) (env : Env e) (o : Oper) : Prop := ∃ j want d, o.guard = some (j, want) ∧ dstOf all j = some d ∧ d < e ∧ (lget (dpN e) env d = .c .un ∨ ∃ b, lget (dpN e) env d = .c (.b b) ∧ b ≠ want)
def GdRun (all : List Oper) (e : Nat) (env : Env e) (o : Oper) : Prop := o.guard = none ∨ ∃ j want d, o.guard = some (j, want) ∧ dstOf all j = some d ∧ d < e ∧ lget (dpN e) env d = .c (.b want)

/-- What M knows of an operation that the program has not done yet. -/
def Ct (P : Program) (e : Nat) (all : List Oper) (H0 : Hp) (env : Env e) (H : Hp) (m : Mp) (g : Nat) (o : Oper) (v : V) : Prop :=
  (GdSkip all e env o ∧ v = .c .un) ∨ (GdRun all e env o ∧ (PuSem P e env o v ∨ LdSem P e env o H v ∧ kindO o.op = 1 ∨ kindO o.op = 2 ∧ H0.next ≤ g ∧ g < H.next ∧ m g = none ∧ ∃ b f, FrSem P e env o b f ∧ v = f g ∧ lget 7 H.t g = b))

structure Inv (P : Program) (e : Nat) (all : List Oper) (w0 : World) (m0 : Mp) (H0 : Hp) (base : Nat → V) (L : List Nat) (val : Nat → V) (gh : Nat → Nat) (R : Nat → Bool) (env : Env e) (H : Hp) (m : Mp) (w : World) (renv : List Value) : Prop where
  st : St w0 m w H
  le0 : Le m0 m
  gh0 : Gh m0 m H0 H
  envM : ∀ t, t < e → lget (dpN e) env t = curA all val base L t
  len : renv.length = e
  slot : ∀ t, t < e → VR m (cur all val base R L t) (renv.getD t undef)
  lok : LOk all L
  lt : ∀ j ∈ L, j < all.length
  rl : ∀ i, R i = true → i ∈ L
  closR : ∀ k, R k = true → ∀ j ∈ depsI all k, R j = true
  cert : ∀ L1 i L2, L = L1 ++ i :: L2 → R i = false → ∃ (o : Oper) (env_i : Env e), all[i]? = some o ∧ (∀ t, t < e → lget (dpN e) env_i t = curA all val base L2 t) ∧ Ct P e all H0 env_i H m (gh i) o (val i)
  ghd : ∀ i j, i ∈ L → j ∈ L → R i = false → R j = false → kindI all i = 2 → kindI all j = 2 → gh i = gh j → i = j
  ghs : ∀ i, i ∈ L → R i = false → kindI all i = 2 → gh i < H.next ∨ gh i = 20000 + i

variable {L : List Nat} {val : Nat → V} {gh : Nat → Nat} {R : Nat → Bool} {env : Env e} {H : Hp} {m : Mp} {w : World} {renv : List Value}

theorem dstOf_eq {i : Nat} {o : Oper} (h : all[i]? = some o) : dstOf all i = o.dst := by unfold dstOf; rw [h]
theorem kindI_eq {i : Nat} {o : Oper} (h : all[i]? = some o) : kindI all i = kindO o.op := by unfold kindI; rw [h]

/-- The program has done one more that M has done. -/
theorem Inv.done (hT : TmpOk all) (I : Inv P e all w0 m0 H0 base L val gh R env H m w renv) {L1 L2 : List Nat} {i : Nat} (hL : L = L1 ++ i :: L2) (hn : R i = false) (hr : ∀ k ∈ depsI all i, R k = true) {o : Oper} (ho : all[i]? = some o) {m' : Mp} {w' : World} {rv : Value}
    (hle : Le m m') (hv : VR m' (val i) rv) (hS : St w0 m' w' H) (hG : Gh m0 m' H0 H) (hgh : ∀ k ∈ L, R k = false → k ≠ i → kindI all k = 2 → m (gh k) = none → m' (gh k) = none) :
    Inv P e all w0 m0 H0 base L val gh (fun k => R k || k == i) env H m' w' (put renv o.dst rv) := by
  have hR' : ∀ k, (R k || k == i) = true → R k = true ∨ k = i := fun k hk => by simpa using hk
  have hRf : ∀ k, (R k || k == i) = false → R k = false ∧ k ≠ i := fun k hk => by simpa using hk
  refine ⟨hS, I.le0.trans hle, hG, I.envM, ?_, ?_, I.lok, I.lt, ?_, ?_, ?_, ?_, fun k hk hRk => I.ghs k hk (hRf k hRk).1⟩
  · cases hd : o.dst with
    | none => exact I.len
    | some d => show (renv.set d rv).length = e; rw [List.length_set]; exact I.len
  · intro t ht
    have hc := cur_one (val := val) (base := base) (t := t) hT (hL ▸ I.lok) (hL ▸ I.lt) I.closR hn
    rw [← hL] at hc
    rw [hc, dstOf_eq ho]
    by_cases hd : o.dst = some t
    · rw [if_pos hd, hd]
      show VR m' (val i) ((renv.set t rv).getD t undef)
      rw [List.getD_eq_getElem?_getD, List.getElem?_set, if_pos rfl, if_pos (by rw [I.len]; exact ht)]
      exact hv
    · rw [if_neg hd]
      have h1 := (I.slot t ht).mono hle
      cases hd2 : o.dst with
      | none => exact h1
      | some d =>
        show VR m' _ ((renv.set d rv).getD t undef)
        rw [List.getD_eq_getElem?_getD, List.getElem?_set, if_neg (fun e => hd (by rw [hd2, e])), ← List.getD_eq_getElem?_getD]
        exact h1
  · intro k hk
    rcases hR' k hk with h | rfl
    · exact I.rl k h
    · rw [hL]; simp
  · intro k hk j hj
    rcases hR' k hk with h | rfl
    · simp [I.closR k h j hj]
    · simp [hr j hj]
  · intro M1 k M2 e1 hk
    obtain ⟨h1, h2⟩ := hRf k hk
    obtain ⟨ok, env_k, hok, henv, hct⟩ := I.cert M1 k M2 e1 h1
    refine ⟨ok, env_k, hok, henv, ?_⟩
    rcases hct with hct | ⟨hg, hct | hct | ⟨hk2, a1, a2, a3, a4⟩⟩
    · exact .inl hct
    · exact .inr ⟨hg, .inl hct⟩
    · exact .inr ⟨hg, .inr (.inl hct)⟩
    · exact .inr ⟨hg, .inr (.inr ⟨hk2, a1, a2, hgh k (by rw [e1]; simp) h1 h2 (by rw [kindI_eq hok]; exact hk2) a3, a4⟩)⟩
  · intro k j hk hj hRk hRj
    exact I.ghd k j hk hj (hRf k hRk).1 (hRf j hRj).1

theorem Inv.reads (hT : TmpOk all) (I : Inv P e all w0 m0 H0 base L val gh R env H m w renv) {L1 L2 : List Nat} {i : Nat} (hL : L = L1 ++ i :: L2) (hn : R i = false) (hr : ∀ k ∈ depsI all i, R k = true) {env_i : Env e} (henv : ∀ t, t < e → lget (dpN e) env_i t = curA all val base L2 t) :
    ∀ t ∈ readsI all i, SlR m e env_i renv t := by
  intro t ht hte
  rw [henv t hte, ← cur_read (val := val) (base := base) hT (hL ▸ I.lok) (hL ▸ I.lt) I.closR hn hr ht, ← hL]
  exact I.slot t hte

theorem reads_ops {i : Nat} {o : Oper} (ho : all[i]? = some o) {env_i : Env e} (h : ∀ t ∈ readsI all i, SlR m e env_i renv t) : OpsR m e env_i renv o.op.operands.toList := by
  rintro x hx t rfl
  refine h t ?_
  unfold readsI
  rw [ho]
  unfold readsO
  refine List.mem_append_left _ (List.mem_flatMap.2 ⟨_, hx, ?_⟩)
  simp [tmpO]

theorem reads_gd {i j d : Nat} {want : Bool} {o : Oper} (ho : all[i]? = some o) (hg : o.guard = some (j, want)) (hd : dstOf all j = some d) : d ∈ readsI all i := by
  unfold readsI
  rw [ho]
  unfold readsO
  simp [hg, hd]

theorem slot_get {d : Nat} (hl : renv.length = e) (hd : d < e) : renv[d]? = some (renv.getD d undef) := by
  rw [List.getD_eq_getElem?_getD, List.getElem?_eq_getElem (by rw [hl]; exact hd)]
  rfl

theorem skip_wanted {i : Nat} {o : Oper} {env_i : Env e} (ho : all[i]? = some o) (hl : renv.length = e) (h : ∀ t ∈ readsI all i, SlR m e env_i renv t) (hg : GdSkip all e env_i o) : Region.wanted o (yielded all.toArray (act renv).tmps) = false := by
  obtain ⟨j, want, d, h1, h2, hd, h3⟩ := hg
  have hs := h d (reads_gd ho h1 h2) hd
  have hy := yielded_act (env := renv) h2
  have hget := slot_get hl hd
  rcases h3 with h3 | ⟨b, h3, hb⟩
  · rw [h3] at hs
    have hs : renv.getD d undef = undef := hs
    rw [hs] at hget
    simp [Region.wanted, h1, hy, hget, undef]
  · rw [h3] at hs
    have hs : renv.getD d undef = .bool b := hs
    rw [hs] at hget
    simp [Region.wanted, h1, hy, hget, hb]

theorem run_wanted {i : Nat} {o : Oper} {env_i : Env e} (ho : all[i]? = some o) (hl : renv.length = e) (h : ∀ t ∈ readsI all i, SlR m e env_i renv t) (hg : GdRun all e env_i o) : Region.wanted o (yielded all.toArray (act renv).tmps) = true := by
  rcases hg with hg | ⟨j, want, d, h1, h2, hd, h3⟩
  · exact wanted_none hg
  · have hs := h d (reads_gd ho h1 h2) hd
    have hy := yielded_act (env := renv) h2
    have hget := slot_get hl hd
    rw [h3] at hs
    have hs : renv.getD d undef = .bool want := hs
    rw [hs] at hget
    simp [Region.wanted, h1, hy, hget]

/-- The program does an operation that M has done before. -/
theorem Inv.replay {Q : Exit → Act → World → Prop} {K : Act → World → Prop} (hT : TmpOk all) (I : Inv P e all w0 m0 H0 base L val gh R env H m w renv) {i : Nat} (hi : i ∈ L) (hn : R i = false) (hr : ∀ k ∈ depsI all i, R k = true)
    (hK : ∀ m' w' renv', Inv P e all w0 m0 H0 base L val gh (fun k => R k || k == i) env H m' w' renv' → K (act renv') w') : wpOp P all.toArray Q i K (act renv) w := by
  obtain ⟨L1, L2, hL⟩ := List.append_of_mem hi
  obtain ⟨o, env_i, ho, henv, hct⟩ := I.cert L1 i L2 hL hn
  have hrd := I.reads hT hL hn hr henv
  have hops := reads_ops ho hrd
  have keep : ∀ k ∈ L, R k = false → k ≠ i → kindI all k = 2 → m (gh k) = none → m (gh k) = none := fun _ _ _ _ _ h => h
  unfold wpOp
  rw [List.getElem?_toArray, ho]
  simp only
  rcases hct with ⟨hg, hv⟩ | ⟨hg, hct⟩
  · rw [if_neg (by rw [skip_wanted ho I.len hrd hg]; simp), put_act]
    exact hK _ _ _ (I.done hT hL hn hr ho (Le.refl m) (by rw [hv]; exact rfl) I.st I.gh0 keep)
  · rw [if_pos (run_wanted ho I.len hrd hg)]
    refine .inl (does_wp (K := fun rv w' => ∃ m', Inv P e all w0 m0 H0 base L val gh (fun k => R k || k == i) env H m' w' (put renv o.dst rv)) ?_ fun rv w' ⟨m', hI⟩ => hK _ _ _ hI)
    rcases hct with hP | ⟨hl, _⟩ | ⟨hk2, a1, a2, a3, b, f, hF, hv, hb⟩
    · obtain ⟨rv, hrun, hv⟩ := hP m renv hops
      exact .inl ⟨_, _, hrun w, m, I.done hT hL hn hr ho (Le.refl m) hv I.st I.gh0 keep⟩
    · obtain ⟨ob, wr, n, dp, d, hg2, hl⟩ := hl
      obtain ⟨rv, hrun, hv⟩ := hl H m _ w renv hg2 I.st.hr hops
      exact .inl ⟨_, _, hrun w rfl, m, I.done hT hL hn hr ho (Le.refl m) hv I.st I.gh0 keep⟩
    · obtain ⟨arr, T, rv, hrun, ⟨n, dp, d, hbb, hn2, hdp, htr⟩, hrel⟩ := hF m renv hops
      have hw : Keep (fun k => k = w.heap.size) w (w.alloc (.cells arr.toArray T)) := Keep.of_new (new_alloc w _)
      have hbind := I.st.hr.bind a2 (hb.trans hbb) a3 hw I.st.hr.size (blk_alloc w arr T) rfl (by omega) hdp (by rw [hn2, List.take_length]; exact htr) (fun o wr n dp d N hg hm => by have := (I.st.hr.blk _ _ _ hm).2; omega)
      have hm' : mset m (gh i) (w.heap.size, arr.length) (gh i) = some (w.heap.size, arr.length) := by unfold mset; rw [if_pos rfl]
      have hle : Le m (mset m (gh i) (w.heap.size, arr.length)) := mset_le a3
      refine .inl ⟨_, _, hrun w, _, I.done hT hL hn hr ho hle (by rw [hv]; exact hrel _ _ _ hle hm') ⟨hbind, I.st.new.trans hw fun k hk e => by have := I.st.new.size; omega⟩ ⟨I.gh0.1, fun o ho hno => ⟨?_, (I.gh0.2 o ho hno).2⟩⟩ fun k hk hRk hki hk2' hno => ?_⟩
      · unfold mset; rw [if_neg (by omega)]; exact (I.gh0.2 o ho hno).1
      · unfold mset
        rw [if_neg fun e => hki (I.ghd k i hk hi hRk hn hk2' (by rw [kindI_eq ho]; exact hk2) e)]
        exact hno
end
end Go.Mx
