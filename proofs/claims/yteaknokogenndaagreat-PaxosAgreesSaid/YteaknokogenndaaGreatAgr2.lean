/- The plain law behind PaxosAgrees: the fabric under any schedule. -/
import Derived.Test.YteaknokogenndaaGreatAgr1
set_option linter.unusedVariables false
namespace Go.Proofs.YteaknokogenndaaGreat
open Go.Eng

/-! ### Steps of the fabric -/

/-- A pair of verbs that the fabric holds. -/
inductive Fab.Has (F : Fab) (p : Pair) : Prop
  | orph (h : p ∈ F.orphans)
  | lane (C : Comp) (l : Lane) (hC : C ∈ F.clients) (hl : l ∈ C.lanes) (e : l.pair = p)

theorem step_one {p : Pair} {x : Verb} {xs : List Verb} (hv : p.verbs = x :: xs) (hs : Single x) (hg : PairGood p) (n : NodeS) : p.step n = (p.done, (serve p.inc p.client x n).2, some (serve p.inc p.client x n).1) := by
  have he : p.executed = 0 := by
    have := hg.rdy x xs hv
    rw [hs.pieces] at this
    simp at this
    exact this
  have hw : p.words = [] := hg.zero he
  have hr : p.refusal x n = refuse p.inc p.client x n := rfl
  unfold Pair.step
  rw [hv]
  dsimp only
  rw [hr]
  unfold serve
  split
  · rfl
  · rw [he, hs.pieces, hw]
    rfl

theorem step_cases (F : Fab) (x : Choice) : (F.step x).2 = F ∨
    (∃ (i : Nat) (p : Pair) (n : NodeS), F.orphans[i]? = some p ∧ F.nodes[p.node.toNat]? = some n ∧ (F.step x).2 = { F with nodes := F.nodes.set p.node.toNat (p.step n).2.1, orphans := if (p.step n).1.verbs.length = 0 then F.orphans.eraseIdx i else F.orphans.set i (p.step n).1 }) ∨
    (∃ (c : Nat) (C : Comp) (j : Nat) (l : Lane) (n : NodeS), F.clients[c]? = some C ∧ C.lanes[j]? = some l ∧ F.nodes[j]? = some n ∧ l.pair.verbs ≠ [] ∧ (F.step x).2 = { F with nodes := F.nodes.set j (l.pair.step n).2.1, clients := F.clients.set c (C.comes j l (l.pair.step n).1 (l.pair.step n).2.2) }) := by
  unfold Fab.step
  by_cases h0 : 0 ≤ x.orphan
  · rw [if_pos h0]
    unfold Fab.stepOrphan
    cases hp : F.orphans[x.orphan.toNat]? with
    | none => exact .inl rfl
    | some p =>
      dsimp only
      cases hn : F.nodes[p.node.toNat]? with
      | none => exact .inl rfl
      | some n => exact .inr (.inl ⟨_, p, n, hp, hn, rfl⟩)
  · rw [if_neg h0]
    by_cases h1 : x.orphan < -1
    · rw [if_pos h1]; exact .inl rfl
    · rw [if_neg h1]
      cases hc : F.cl x.client with
      | none => exact .inl rfl
      | some C =>
        dsimp only
        by_cases h2 : x.node < 0
        · rw [if_pos h2]; exact .inl rfl
        · rw [if_neg h2]
          cases hl : C.lanes[x.node.toNat]? with
          | none => exact .inl rfl
          | some l =>
            cases hn : F.nodes[x.node.toNat]? with
            | none => exact .inl rfl
            | some n =>
              dsimp only
              by_cases h3 : l.pair.verbs.length = 0
              · rw [if_pos h3]; exact .inl rfl
              · rw [if_neg h3]
                obtain ⟨_, hcc⟩ := Fab.cl_some hc
                exact .inr (.inr ⟨_, C, _, l, n, hcc, hl, hn, fun e => h3 (by rw [e]; rfl), rfl⟩)

/-! ### A batch under way -/

def Comp.pending (C : Comp) (k : Nat) : Prop := ∃ l ∈ C.lanes, k ∈ l.places

structure Bat2 (R : Verb → Done → Prop) (vs : List Verb) (C : Comp) (ds : List Done) : Prop where
  batch : C.batch = some ds
  len : ds.length = vs.length
  lane : ∀ l ∈ C.lanes, ∀ (m : Nat) (v : Verb) (k : Nat), l.pair.verbs[m]? = some v → l.places[m]? = some k → vs[k]? = some v
  rep : ∀ (k : Nat) (v : Verb) (d : Done), vs[k]? = some v → ds[k]? = some d → C.pending k ∨ R v d

theorem Bat2.mono {R S : Verb → Done → Prop} {vs : List Verb} {C : Comp} {ds : List Done} (h : Bat2 R vs C ds) (hR : ∀ v d, R v d → S v d) : Bat2 S vs C ds :=
  ⟨h.batch, h.len, h.lane, fun k v d hv hd => (h.rep k v d hv hd).imp id (hR v d)⟩

/-- When nothing is pending, all replies are there. -/
theorem Bat2.all {R : Verb → Done → Prop} {vs : List Verb} {C : Comp} {ds : List Done} {n i : Nat} (h : Bat2 R vs C ds) (hC : CompOk n i C) (hw : C.waiting = 0) : ∀ (k : Nat) (v : Verb) (d : Done), vs[k]? = some v → ds[k]? = some d → R v d := by
  intro k v d hv hd
  rcases h.rep k v d hv hd with ⟨l, hl, hk⟩ | hr
  · exfalso
    obtain ⟨j, hj⟩ := List.mem_iff_getElem?.1 hl
    have h1 := (hC.lane j l hj).places
    have h2 : l.pair.verbs.length ≤ pend C.lanes := by
      have := pend_set (l' := l) hj
      have h3 : ∀ {ls : List Lane} {a : Lane}, a ∈ ls → a.pair.verbs.length ≤ pend ls := by
        intro ls
        induction ls with
        | nil => intro a ha; simp at ha
        | cons y ys ih =>
          intro a ha
          rcases List.mem_cons.1 ha with rfl | ha
          · simp [pend]
          · have := ih ha; simp [pend] at this ⊢; omega
      exact h3 hl
    have h4 := hC.waiting
    have : l.places = [] := List.eq_nil_of_length_eq_zero (by omega)
    rw [this] at hk
    simp at hk
  · exact hr

theorem Bat2.comes {R S : Verb → Done → Prop} {vs : List Verb} {C : Comp} {ds : List Done} {j : Nat} {l : Lane} {p : Pair} {d : Done} {x : Verb} {xs : List Verb} (h : Bat2 R vs C ds) (hl : C.lanes[j]? = some l) (hv : l.pair.verbs = x :: xs) (hp : p.verbs = xs) (hpl : l.places.length = l.pair.verbs.length) (hR : ∀ v d, R v d → S v d) (hd : S x d) :
    ∃ ds', Bat2 S vs (C.comes j l p (some d)) ds' := by
  have hlm := List.mem_of_getElem? hl
  cases hq : l.places with
  | nil => rw [hq, hv] at hpl; simp at hpl
  | cons k0 ks =>
    have hk0 := h.lane l hlm 0 x k0 (by rw [hv]; rfl) (by rw [hq]; rfl)
    have hk0l : k0 < ds.length := by rw [h.len]; exact lt_of_get hk0
    have hcs : C.comes j l p (some d) = { C with lanes := C.lanes.set j ⟨p, ks⟩, batch := some (ds.set k0 d), waiting := C.waiting - 1 } := by
      unfold Comp.comes
      rw [h.batch, hq]
      rfl
    rw [hcs]
    refine ⟨ds.set k0 d, rfl, by rw [List.length_set]; exact h.len, fun l' hl' m v k h1 h2 => ?_, fun k v d' h1 h2 => ?_⟩
    · rcases List.mem_or_eq_of_mem_set hl' with hl' | rfl
      · exact h.lane l' hl' m v k h1 h2
      · exact h.lane l hlm (m + 1) v k (by rw [hv, List.getElem?_cons_succ, ← hp]; exact h1) (by rw [hq, List.getElem?_cons_succ]; exact h2)
    · rcases get_set hk0l h2 with ⟨rfl, rfl⟩ | ⟨hne, h2⟩
      · rw [hk0] at h1
        cases h1
        exact .inr hd
      · rcases h.rep k v d' h1 h2 with ⟨l', hl', hk'⟩ | hr
        · left
          obtain ⟨q, hq'⟩ := List.mem_iff_getElem?.1 hl'
          by_cases hqj : q = j
          · subst hqj
            rw [hl] at hq'
            cases hq'
            rw [hq] at hk'
            rcases List.mem_cons.1 hk' with rfl | hk'
            · exact absurd rfl hne
            · exact ⟨⟨p, ks⟩, List.mem_of_getElem? (List.getElem?_set_self (lt_of_get hl)), hk'⟩
          · exact ⟨l', List.mem_of_getElem? (by rw [List.getElem?_set_ne (fun e => hqj e.symm)]; exact hq'), hk'⟩
        · exact .inr (hR v d' hr)

/-! ### Posting -/

structure Ext (k : Nat) (vs : List Verb) (j : Nat) (l l' : Lane) (vx : List Verb) (px : List Nat) : Prop where
  pair : l'.pair = { l.pair with verbs := l.pair.verbs ++ vx }
  places : l'.places = l.places ++ px
  len : vx.length = px.length
  at_ : ∀ (m : Nat) (v : Verb) (q : Nat), vx[m]? = some v → px[m]? = some q → ∃ i, q = k + i ∧ vs[i]? = some v ∧ v.node.toNat = j

theorem postOne_get {C : Comp} {k : Nat} {v : Verb} {j : Nat} {l' : Lane} (h : (C.postOne k v).lanes[j]? = some l') : ∃ l, C.lanes[j]? = some l ∧ ((j = v.node.toNat ∧ l' = laneAdd l k v) ∨ (j ≠ v.node.toNat ∧ l' = l)) := by
  have h' : (C.lanes.modify v.node.toNat fun l => laneAdd l k v)[j]? = some l' := h
  rw [List.getElem?_modify] at h'
  cases hl : C.lanes[j]? with
  | none => rw [hl] at h'; simp at h'
  | some l =>
    rw [hl] at h'
    by_cases hj : v.node.toNat = j
    · refine ⟨l, rfl, .inl ⟨hj.symm, ?_⟩⟩
      simp [hj] at h'
      exact h'.symm
    · refine ⟨l, rfl, .inr ⟨fun e => hj e.symm, ?_⟩⟩
      simp [hj] at h'
      exact h'.symm

theorem postFrom_ext : ∀ (vs : List Verb) (k : Nat) (C : Comp) (j : Nat) (l' : Lane), (C.postFrom k vs).lanes[j]? = some l' → ∃ l vx px, C.lanes[j]? = some l ∧ Ext k vs j l l' vx px
  | [], k, C, j, l', h => ⟨l', [], [], h, by simp, by simp, rfl, fun m v q hm => by simp at hm⟩
  | v :: vs, k, C, j, l', h => by
    rw [Comp.postFrom] at h
    obtain ⟨l1, vx, px, h1, e1⟩ := postFrom_ext vs (k + 1) _ j l' h
    obtain ⟨l, hl, hc⟩ := postOne_get h1
    rcases hc with ⟨hj, rfl⟩ | ⟨hj, rfl⟩
    · refine ⟨l, v :: vx, k :: px, hl, ?_, ?_, by simp [e1.len], ?_⟩
      · rw [e1.pair]; simp [laneAdd]
      · rw [e1.places]; simp [laneAdd]
      · intro m u q hm hq
        cases m with
        | zero => simp at hm hq; exact ⟨0, by omega, by simp [hm], by rw [← hm]; exact hj.symm⟩
        | succ m =>
          obtain ⟨i, a1, a2, a3⟩ := e1.at_ m u q (by simpa using hm) (by simpa using hq)
          exact ⟨i + 1, by omega, by simpa using a2, a3⟩
    · refine ⟨l1, vx, px, hl, e1.pair, e1.places, e1.len, fun m u q hm hq => ?_⟩
      obtain ⟨i, a1, a2, a3⟩ := e1.at_ m u q hm hq
      exact ⟨i + 1, by omega, by simpa using a2, a3⟩

theorem postOne_len (C : Comp) (k : Nat) (v : Verb) : (C.postOne k v).lanes.length = C.lanes.length := by
  show (C.lanes.modify _ _).length = _
  rw [List.length_modify]

theorem postFrom_len : ∀ (vs : List Verb) (k : Nat) (C : Comp), (C.postFrom k vs).lanes.length = C.lanes.length
  | [], k, C => rfl
  | v :: vs, k, C => by rw [Comp.postFrom, postFrom_len vs, postOne_len]

theorem postFrom_cov : ∀ (vs : List Verb) (k : Nat) (C : Comp) (i : Nat) (v : Verb), vs[i]? = some v → v.node.toNat < C.lanes.length → ∃ l' ∈ (C.postFrom k vs).lanes, k + i ∈ l'.places
  | [], k, C, i, v, h, _ => by simp at h
  | u :: vs, k, C, 0, v, h, hl => by
    simp at h
    subst h
    rw [Comp.postFrom]
    have hlt : u.node.toNat < ((C.postOne k u).postFrom (k + 1) vs).lanes.length := by rw [postFrom_len, postOne_len]; exact hl
    obtain ⟨l1, vx, px, h2, e1⟩ := postFrom_ext vs (k + 1) (C.postOne k u) u.node.toNat _ (List.getElem?_eq_getElem hlt)
    obtain ⟨l, h3, hc⟩ := postOne_get h2
    rcases hc with ⟨_, rfl⟩ | ⟨hj, _⟩
    · refine ⟨_, List.getElem_mem hlt, ?_⟩
      rw [e1.places]
      simp [laneAdd]
    · exact absurd rfl hj
  | u :: vs, k, C, i + 1, v, h, hl => by
    rw [Comp.postFrom]
    obtain ⟨l', h1, h2⟩ := postFrom_cov vs (k + 1) (C.postOne k u) i v (by simpa using h) (by rw [postOne_len]; exact hl)
    exact ⟨l', h1, by rw [show k + (i + 1) = k + 1 + i by omega]; exact h2⟩

/-! ### The invariant of the fabric -/

structure PI (n : Nat) (g : Gh) (F : Fab) : Prop where
  fine : Fine F
  lines : F.lines = 98
  len : F.nodes.length = n
  ok : GOk n g
  node : NIs g F.nodes
  door : ∀ m ∈ F.nodes, ∀ c, c < 6 → m.get (24 + c) = 1
  verb : ∀ p, F.Has p → ∀ v ∈ p.verbs, v.node = p.node ∧ VI g v

/-- How a compute node changes in a step. -/
structure CStep (g g' : Gh) (C C' : Comp) : Prop where
  alive : C'.alive = C.alive
  inc : C'.inc = C.inc
  none : C.batch = none → C' = C
  bat : ∀ vs ds, Bat2 (Rep g) vs C ds → ∃ ds', Bat2 (Rep g') vs C' ds'

theorem CStep.refl {g g' : Gh} (hl : g.le g') (C : Comp) : CStep g g' C C := ⟨rfl, rfl, fun _ => rfl, fun vs ds h => ⟨ds, h.mono fun _ _ hr => hr.mono hl⟩⟩

/-- Nodes that differ in the word of the consensus alone. -/
def SameN (F F' : Fab) : Prop := ∀ (i : Nat) (m' : NodeS), F'.nodes[i]? = some m' → ∃ m, F.nodes[i]? = some m ∧ m'.get 1 = m.get 1 ∧ m'.down = m.down

theorem PI.wlen {n : Nat} {g : Gh} {F : Fab} (h : PI n g F) {i : Nat} {m : NodeS} (hi : F.nodes[i]? = some m) : 10 < m.words.length := by
  have h1 := h.fine.good.ok.words m (List.mem_of_getElem? hi)
  have h2 := h.lines
  omega

/-- One verb of a pair is served. -/
theorem PI.serve {n : Nat} {g : Gh} {F : Fab} (h : PI n g F) {p : Pair} {x : Verb} {xs : List Verb} {i : Nat} {m : NodeS} (hp : F.Has p) (hv : p.verbs = x :: xs) (hpi : p.node = i) (hi : F.nodes[i]? = some m) (hg : PairGood p) :
    ∃ g' : Gh, g.le g' ∧ g'.val = g.val ∧ GOk n g' ∧ NIs g' (F.nodes.set i (p.step m).2.1) ∧ (∀ m' ∈ F.nodes.set i (p.step m).2.1, ∀ c, c < 6 → m'.get (24 + c) = 1) ∧
      (∀ (q : Nat) (m' : NodeS), (F.nodes.set i (p.step m).2.1)[q]? = some m' → ∃ m, F.nodes[q]? = some m ∧ m'.get 1 = m.get 1 ∧ m'.down = m.down) ∧
      (p.step m).1 = p.done ∧ p.done.verbs = xs ∧ ∃ d, (p.step m).2.2 = some d ∧ Rep g' x d := by
  have hx := h.verb p hp x (by rw [hv]; exact List.mem_cons_self)
  have hst := step_one hv hx.2.single hg m
  obtain ⟨g', a1, a2, a3, a4, a5, a6, a7⟩ := serve_step p.inc p.client h.ok h.node hi (h.wlen hi) hx.2 (hx.1.trans hpi)
  rw [hst]
  refine ⟨g', a1, a2, a3, a4, fun m' hm' c hc => ?_, fun q m' hm' => ?_, rfl, by show p.verbs.tail = xs; rw [hv]; rfl, _, rfl, a5⟩
  · rcases List.mem_or_eq_of_mem_set hm' with hm' | rfl
    · exact h.door m' hm' c hc
    · rw [a6 _ (by omega)]; exact h.door m (List.mem_of_getElem? hi) c hc
  · rcases get_set (lt_of_get hi) hm' with ⟨rfl, rfl⟩ | ⟨_, hm'⟩
    · exact ⟨m, hi, a6 1 (by omega), a7⟩
    · exact ⟨m', hm', rfl, rfl⟩

theorem PI.step {n : Nat} {g : Gh} {F : Fab} (h : PI n g F) (x : Choice) : ∃ g' : Gh, g.le g' ∧ g'.val = g.val ∧ PI n g' (F.step x).2 ∧ SameN F (F.step x).2 ∧
    ∀ (c : Nat) (C : Comp), F.clients[c]? = some C → ∃ C', (F.step x).2.clients[c]? = some C' ∧ CStep g g' C C' := by
  have hfine := h.fine.step x
  rcases step_cases F x with e | ⟨i, p, nd, hp, hn, e⟩ | ⟨c, C, j, l, nd, hc, hl, hn, hv, e⟩
  · rw [e]
    exact ⟨g, .refl g, rfl, h, fun i m hm => ⟨m, hm, rfl, rfl⟩, fun c C hC => ⟨C, hC, .refl (.refl g) C⟩⟩
  · have hpm := List.mem_of_getElem? hp
    have hhas : F.Has p := .orph hpm
    have hpn := (h.fine.good.ok.orphan p hpm).1
    have hgo := h.fine.good.or p hpm
    rw [e] at hfine ⊢
    cases hvs : p.verbs with
    | nil =>
      have hst : p.step nd = (p, nd, none) := by unfold Pair.step; rw [hvs]
      rw [hst] at hfine ⊢
      have hself : F.nodes.set p.node.toNat nd = F.nodes := by
        apply List.ext_getElem?
        intro k
        rw [List.getElem?_set]
        split
        · rename_i e; subst e; rw [if_pos (lt_of_get hn), hn]
        · rfl
      dsimp only at hfine ⊢
      rw [hself] at hfine ⊢
      refine ⟨g, .refl g, rfl, ⟨hfine, h.lines, h.len, h.ok, h.node, h.door, fun q hq => ?_⟩, fun i m hm => ⟨m, hm, rfl, rfl⟩, fun c C hC => ⟨C, hC, .refl (.refl g) C⟩⟩
      refine h.verb q ?_
      cases hq with
      | orph hq =>
        rw [if_pos (by rw [hvs]; rfl)] at hq
        exact .orph (List.mem_of_mem_eraseIdx hq)
      | lane C l hC hl e => exact .lane C l hC hl e
    | cons x xs =>
      obtain ⟨g', a1, a2, a3, a4, a5, a6, a7, a8, d, a9, a10⟩ := h.serve hhas hvs (i := p.node.toNat) (by omega) hn hgo
      rw [a7] at hfine ⊢
      refine ⟨g', a1, a2, ⟨hfine, h.lines, by rw [List.length_set]; exact h.len, a3, a4, a5, fun q hq v hvq => ?_⟩, a6, fun c C hC => ⟨C, hC, .refl a1 C⟩⟩
      have hold : F.Has q ∨ q = p.done := by
        cases hq with
        | orph hq =>
          have hq : q ∈ (if p.done.verbs.length = 0 then F.orphans.eraseIdx i else F.orphans.set i p.done) := hq
          split at hq
          · exact .inl (.orph (List.mem_of_mem_eraseIdx hq))
          · rcases List.mem_or_eq_of_mem_set hq with hq | hq
            · exact .inl (.orph hq)
            · exact .inr hq
        | lane C l hC hl e => exact .inl (.lane C l hC hl e)
      rcases hold with hq | rfl
      · have := h.verb q hq v hvq
        exact ⟨this.1, this.2.mono a1.val⟩
      · rw [a8] at hvq
        have := h.verb p hhas v (by rw [hvs]; exact List.mem_cons_of_mem _ hvq)
        exact ⟨this.1, this.2.mono a1.val⟩
  · have hCm := List.mem_of_getElem? hc
    have hlm := List.mem_of_getElem? hl
    have hhas : F.Has l.pair := .lane C l hCm hlm rfl
    have hCo := h.fine.good.ok.client c C hc
    have hLo := hCo.lane j l hl
    have hgo := h.fine.good.cl C hCm l hlm
    rw [e] at hfine ⊢
    cases hvs : l.pair.verbs with
    | nil => exact absurd hvs hv
    | cons x xs =>
      obtain ⟨g', a1, a2, a3, a4, a5, a6, a7, a8, d, a9, a10⟩ := h.serve hhas hvs (i := j) hLo.node hn hgo
      rw [a7, a9] at hfine ⊢
      refine ⟨g', a1, a2, ⟨hfine, h.lines, by rw [List.length_set]; exact h.len, a3, a4, a5, fun q hq v hvq => ?_⟩, a6, fun c' C' hC' => ?_⟩
      · have hold : F.Has q ∨ q = l.pair.done := by
          cases hq with
          | orph hq => exact .inl (.orph hq)
          | lane D l' hD hl' e' =>
            rcases List.mem_or_eq_of_mem_set hD with hD | rfl
            · exact .inl (.lane D l' hD hl' e')
            · have hl' : l' ∈ C.lanes.set j ⟨l.pair.done, l.places.tail⟩ := hl'
              rcases List.mem_or_eq_of_mem_set hl' with hl' | rfl
              · exact .inl (.lane C l' hCm hl' e')
              · exact .inr e'.symm
        rcases hold with hq | rfl
        · have := h.verb q hq v hvq
          exact ⟨this.1, this.2.mono a1.val⟩
        · rw [a8] at hvq
          have := h.verb l.pair hhas v (by rw [hvs]; exact List.mem_cons_of_mem _ hvq)
          exact ⟨this.1, this.2.mono a1.val⟩
      · by_cases hcc : c' = c
        · subst hcc
          rw [hc] at hC'
          cases hC'
          refine ⟨_, List.getElem?_set_self (lt_of_get hc), rfl, rfl, fun hb => ?_, fun vs ds hB => ?_⟩
          · exfalso
            have h1 := hCo.batch.1
            rw [hb] at h1
            have h2 := hCo.waiting
            have h3 : l.pair.verbs.length ≤ pend C.lanes := by
              have h3 : ∀ {ls : List Lane} {a : Lane}, a ∈ ls → a.pair.verbs.length ≤ pend ls := by
                intro ls
                induction ls with
                | nil => intro a ha; simp at ha
                | cons y ys ih =>
                  intro a ha
                  rcases List.mem_cons.1 ha with rfl | ha
                  · simp [pend]
                  · have := ih ha; simp [pend] at this ⊢; omega
              exact h3 hlm
            rw [hvs] at h3
            simp at h1 h3
            omega
          · exact hB.comes hl hvs a8 hLo.places (fun v d hr => hr.mono a1) a10
        · exact ⟨C', by rw [List.getElem?_set_ne (fun e => hcc e.symm)]; exact hC', .refl a1 C'⟩

/-! ### Events -/

theorem PI.setN {n : Nat} {g : Gh} {F : Fab} (h : PI n g F) (k : Nat) {f : NodeS → NodeS} (hl : ∀ m, (f m).words.length = m.words.length) (hg : ∀ m j, j ≠ 1 → (f m).get j = m.get j) : PI n g (F.setN k f) := by
  cases hk : F.nodes[k]? with
  | none => unfold Fab.setN; rw [hk]; exact h
  | some m =>
    have hf := h.fine.setN' k hl
    rw [setN_some hk] at hf ⊢
    refine ⟨hf, h.lines, by show (F.nodes.set k (f m)).length = n; rw [List.length_set]; exact h.len, h.ok, fun i x hx => ?_, fun x hx c hc => ?_, fun p hp => h.verb p ?_⟩
    · rcases get_set (lt_of_get hk) hx with ⟨rfl, rfl⟩ | ⟨_, hx⟩
      · rw [hg m 10 (by omega)]; exact h.node k m hk
      · exact h.node i x hx
    · rcases List.mem_or_eq_of_mem_set hx with hx | rfl
      · exact h.door x hx c hc
      · rw [hg m _ (by omega)]; exact h.door m (List.mem_of_getElem? hk) c hc
    · cases hp with
      | orph h => exact .orph h
      | lane C l hC hl e => exact .lane C l hC hl e

theorem PI.drop {n : Nat} {g : Gh} {F : Fab} (h : PI n g F) (c : Int) : PI n g (F.drop c).2 := by
  have hf := h.fine.drop c
  unfold Fab.drop at hf ⊢
  by_cases hc : c < 0 ∨ F.orphans.length ≤ c.toNat
  · rw [if_pos hc]; exact h
  · rw [if_neg hc] at hf ⊢
    refine ⟨hf, h.lines, h.len, h.ok, h.node, h.door, fun p hp => h.verb p ?_⟩
    cases hp with
    | orph h => exact .orph (List.mem_of_mem_eraseIdx h)
    | lane C l hC hl e => exact .lane C l hC hl e

/-- A compute node dies. -/
theorem PI.die {n : Nat} {g : Gh} {F : Fab} (h : PI n g F) (c : Int) : PI n g (F.die c).2 ∧ ∀ (i : Nat) (C : Comp), F.clients[i]? = some C → ∃ C', (F.die c).2.clients[i]? = some C' ∧ (C' = C ∨ (c = i ∧ C'.alive = false)) := by
  have hf := h.fine.die c
  unfold Fab.die at hf ⊢
  cases hc : F.cl c with
  | none => exact ⟨h, fun i C hC => ⟨C, hC, .inl rfl⟩⟩
  | some C =>
    rw [hc] at hf
    dsimp only at hf ⊢
    obtain ⟨h0, h1⟩ := Fab.cl_some hc
    by_cases ha : C.alive = false
    · rw [if_pos ha]; exact ⟨h, fun i C hC => ⟨C, hC, .inl rfl⟩⟩
    · rw [if_neg ha] at hf ⊢
      refine ⟨⟨hf, h.lines, h.len, h.ok, h.node, h.door, fun p hp => h.verb p ?_⟩, fun i D hD => ?_⟩
      · cases hp with
        | orph hp =>
          rcases List.mem_append.1 hp with hp | hp
          · exact .orph hp
          · obtain ⟨l, hl, rfl⟩ := List.mem_map.1 (List.mem_filter.1 hp).1
            exact .lane C l (List.mem_of_getElem? h1) hl rfl
        | lane D l hD hl e =>
          rcases List.mem_or_eq_of_mem_set hD with hD | rfl
          · exact .lane D l hD hl e
          · simp at hl
      · by_cases hi : c.toNat = i
        · subst hi
          exact ⟨_, List.getElem?_set_self (lt_of_get h1), .inr ⟨by omega, rfl⟩⟩
        · exact ⟨D, by rw [List.getElem?_set_ne hi]; exact hD, .inl rfl⟩

/-! ### Taking and posting -/

theorem PI.setC {n : Nat} {g : Gh} {F : Fab} (h : PI n g F) {c : Nat} {C C' : Comp} (hc : F.clients[c]? = some C) (hf : Fine (F.setC c C')) (hv : ∀ l ∈ C'.lanes, ∀ v ∈ l.pair.verbs, v.node = l.pair.node ∧ VI g v) : PI n g (F.setC c C') := by
  refine ⟨hf, h.lines, h.len, h.ok, h.node, h.door, fun p hp v hvp => ?_⟩
  cases hp with
  | orph hp => exact h.verb p (.orph hp) v hvp
  | lane D l hD hl e =>
    have hD : D ∈ F.clients.set (c : Int).toNat C' := hD
    rcases List.mem_or_eq_of_mem_set hD with hD | rfl
    · exact h.verb p (.lane D l hD hl e) v hvp
    · subst e; exact hv l hl v hvp

theorem pend_mem : ∀ {ls : List Lane} {a : Lane}, a ∈ ls → a.pair.verbs.length ≤ pend ls
  | y :: ys, a, ha => by
    rcases List.mem_cons.1 ha with rfl | ha
    · simp [pend]
    · have := pend_mem ha; simp [pend] at this ⊢; omega

/-- A batch is posted. -/
theorem PI.post {n : Nat} {g : Gh} {F : Fab} (h : PI n g F) {c : Nat} {C : Comp} (hc : F.clients[c]? = some C) (ha : C.alive = true) (hb : C.batch = none) {vs : List Verb} (h0 : 0 < vs.length) (h1 : vs.length ≤ 1024) (hbad : firstBad F.nodes.length F.lines vs = 0) (hv : ∀ v ∈ vs, (0 ≤ v.node ∧ v.node < n) ∧ VI g v) :
    F.post c vs = (0, F.setC c (C.posted' vs)) ∧ PI n g (F.setC c (C.posted' vs)) ∧ Bat2 (Rep g) vs (C.posted' vs) (List.replicate vs.length ⟨0, []⟩) := by
  have hCo := h.fine.good.ok.client c C hc
  have hpost : F.post c vs = (0, F.setC c (C.posted' vs)) := by
    unfold Fab.post
    rw [cl_nat hc]
    dsimp only
    rw [if_neg (by rw [ha]; simp), if_neg (by rw [hb]; simp), if_neg (by omega), if_neg (by omega), if_neg (by omega)]
  have hfine := h.fine.post c vs
  rw [hpost] at hfine
  have hidle : ∀ (j : Nat) (l : Lane), C.lanes[j]? = some l → l.pair.verbs = [] ∧ l.places = [] := by
    intro j l hl
    have h2 := hCo.batch.1
    rw [hb] at h2
    have h3 := pend_mem (List.mem_of_getElem? hl)
    have h4 := hCo.waiting
    have h5 : l.pair.verbs.length = 0 := by simp at h2; omega
    exact ⟨List.eq_nil_of_length_eq_zero h5, List.eq_nil_of_length_eq_zero (by rw [(hCo.lane j l hl).places]; exact h5)⟩
  have hln : C.lanes.length = n := by rw [hCo.lanes, ha, ← h.len]; rfl
  have hext : ∀ l' ∈ (C.posted' vs).lanes, ∃ (j : Nat) (l : Lane), C.lanes[j]? = some l ∧ Ext 0 vs j l l' l'.pair.verbs l'.places := by
    intro l' hl'
    have hl' : l' ∈ (C.postFrom 0 vs).lanes := hl'
    obtain ⟨j, hj⟩ := List.mem_iff_getElem?.1 hl'
    obtain ⟨l, vx, px, g1, g2⟩ := postFrom_ext vs 0 C j l' hj
    obtain ⟨i1, i2⟩ := hidle j l g1
    have e1 : l'.pair.verbs = vx := by rw [g2.pair, i1]; rfl
    have e2 : l'.places = px := by rw [g2.places, i2]; rfl
    exact ⟨j, l, g1, by rw [e1, e2]; exact g2⟩
  refine ⟨hpost, h.setC hc hfine fun l' hl' v hvl => ?_, rfl, by simp, fun l' hl' m v k hm hk => ?_, fun k v d hk hd => .inl ?_⟩
  · obtain ⟨j, l, g1, g2⟩ := hext l' hl'
    obtain ⟨m, hm⟩ := List.mem_iff_getElem?.1 hvl
    have hml : m < l'.places.length := by rw [← g2.len]; exact lt_of_get hm
    obtain ⟨i, _, a2, a3⟩ := g2.at_ m v _ hm (List.getElem?_eq_getElem hml)
    have := hv v (List.mem_of_getElem? a2)
    refine ⟨?_, this.2⟩
    rw [g2.pair]
    show v.node = l.pair.node
    rw [(hCo.lane j l g1).node]
    omega
  · obtain ⟨j, l, g1, g2⟩ := hext l' hl'
    obtain ⟨i, a1, a2, a3⟩ := g2.at_ m v k hm hk
    rw [a1, Nat.zero_add]
    exact a2
  · have := hv v (List.mem_of_getElem? hk)
    obtain ⟨l', g1, g2⟩ := postFrom_cov vs 0 C k v hk (by omega)
    exact ⟨l', g1, by rw [Nat.zero_add] at g2; exact g2⟩
end Go.Proofs.YteaknokogenndaaGreat
