/- A batch of a compute node that is alone on the fabric. -/
import Derived.Test.YteaknokogenndaaGreatAlone
set_option linter.unusedVariables false
namespace Go.Proofs.YteaknokogenndaaGreat
open Go.Eng

/-! ### One verb of one piece -/

def refuse (inc client : Int) (x : Verb) (n : NodeS) : Int :=
  if n.down = true then 4 else if x.v.valid 5 (n.words.length / 8 : Nat) ≠ 0 then 2 else x.v.check inc (n.get (24 + client).toNat) (n.get 0) (n.get 1)

def serve (inc client : Int) (x : Verb) (n : NodeS) : Done × NodeS :=
  if refuse inc client x n ≠ 0 then (⟨refuse inc client x n, []⟩, n) else (⟨0, (exec x (x.at_, 1) n).2⟩, (exec x (x.at_, 1) n).1)

structure Single (x : Verb) : Prop where
  pieces : x.v.pieces = [(x.at_, 1)]

theorem single_of {x : Verb} (h : x.v.count = 1) : Single x := by
  refine ⟨?_⟩
  unfold VerbV.pieces
  rw [h]
  exact piecesFrom_one 1 _ (by omega)

theorem step_single {p : Pair} {x : Verb} (hv : p.verbs = [x]) (hs : Single x) (hg : PairGood p) (n : NodeS) : p.step n = (p.done, (serve p.inc p.client x n).2, some (serve p.inc p.client x n).1) := by
  have he : p.executed = 0 := by
    have := hg.rdy x [] hv
    rw [hs.pieces] at this
    simp at this
    exact this
  have hw : p.words = [] := hg.zero he
  have hr : p.refusal x n = refuse p.inc p.client x n := rfl
  unfold Pair.step
  rw [hv]
  dsimp only
  rw [hr]
  unfold serve
  split
  · rfl
  · rw [he, hs.pieces, hw]
    rfl

/-! ### Choices -/

theorem laneChoices_mem {i : Nat} : ∀ {j : Nat} {ls : List Lane} {x : Choice}, x ∈ laneChoices i j ls → ∃ k l, ls[k]? = some l ∧ 0 < l.pair.verbs.length ∧ x = ⟨-1, i, (j + k : Nat)⟩
  | _, [], x, h => by simp [laneChoices] at h
  | j, l :: ls, x, h => by
    unfold laneChoices at h
    rcases List.mem_append.1 h with h | h
    · split at h
      · rename_i hv
        simp at h
        exact ⟨0, l, rfl, hv, by rw [h]; simp⟩
      · simp at h
    · obtain ⟨k, l', h1, h2, h3⟩ := laneChoices_mem h
      refine ⟨k + 1, l', by simpa using h1, h2, ?_⟩
      rw [h3]
      congr 2
      omega

theorem laneChoices_of {i : Nat} : ∀ {j : Nat} {ls : List Lane} {k : Nat} {l : Lane}, ls[k]? = some l → 0 < l.pair.verbs.length → laneChoices i j ls ≠ []
  | _, [], k, l, h, _ => by simp at h
  | j, a :: ls, 0, l, h, hv => by
    simp at h
    subst h
    unfold laneChoices
    rw [if_pos hv]
    simp
  | j, a :: ls, k + 1, l, h, hv => by
    unfold laneChoices
    intro he
    exact laneChoices_of (j := j + 1) (by simpa using h) hv (List.append_eq_nil_iff.1 he).2

theorem compChoices_mem : ∀ {i : Nat} {cs : List Comp} {x : Choice}, x ∈ compChoices i cs → ∃ q C k l, cs[q]? = some C ∧ C.lanes[k]? = some l ∧ 0 < l.pair.verbs.length ∧ x = ⟨-1, (i + q : Nat), (k : Nat)⟩
  | _, [], x, h => by simp [compChoices] at h
  | i, C :: cs, x, h => by
    unfold compChoices at h
    rcases List.mem_append.1 h with h | h
    · obtain ⟨k, l, h1, h2, h3⟩ := laneChoices_mem h
      exact ⟨0, C, k, l, rfl, h1, h2, by rw [h3]; simp⟩
    · obtain ⟨q, D, k, l, h1, h2, h3, h4⟩ := compChoices_mem h
      refine ⟨q + 1, D, k, l, by simpa using h1, h2, h3, ?_⟩
      rw [h4]
      congr 2
      omega

theorem compChoices_of : ∀ {i : Nat} {cs : List Comp} {q : Nat} {C : Comp} {k : Nat} {l : Lane}, cs[q]? = some C → C.lanes[k]? = some l → 0 < l.pair.verbs.length → compChoices i cs ≠ []
  | _, [], q, C, k, l, h, _, _ => by simp at h
  | i, D :: cs, 0, C, k, l, h, h2, h3 => by
    simp at h
    subst h
    unfold compChoices
    intro he
    exact laneChoices_of h2 h3 (List.append_eq_nil_iff.1 he).1
  | i, D :: cs, q + 1, C, k, l, h, h2, h3 => by
    unfold compChoices
    intro he
    exact compChoices_of (i := i + 1) (by simpa using h) h2 h3 (List.append_eq_nil_iff.1 he).2

def idleC (C : Comp) : Prop := ∀ l ∈ C.lanes, l.pair.verbs = []
structure Quiet (F : Fab) : Prop where
  orph : F.orphans = []
  idle : ∀ C ∈ F.clients, idleC C

theorem Quiet.choices {F : Fab} (h : Quiet F) : F.choices = [] := by
  unfold Fab.choices
  rw [h.orph]
  show compChoices 0 F.clients ++ [] = []
  rw [List.append_nil]
  cases hc : compChoices 0 F.clients with
  | nil => rfl
  | cons x xs =>
    obtain ⟨q, C, k, l, h1, h2, h3, _⟩ := compChoices_mem (i := 0) (cs := F.clients) (x := x) (by rw [hc]; exact List.mem_cons_self)
    have := h.idle C (List.mem_of_getElem? h1) l (List.mem_of_getElem? h2)
    rw [this] at h3
    simp at h3

theorem pend_pos : ∀ {ls : List Lane}, 0 < pend ls → ∃ (k : Nat) (l : Lane), ls[k]? = some l ∧ 0 < l.pair.verbs.length
  | [], h => by simp [pend] at h
  | a :: ls, h => by
    by_cases ha : 0 < a.pair.verbs.length
    · exact ⟨0, a, rfl, ha⟩
    · have : 0 < pend ls := by simp [pend] at h ⊢; omega
      obtain ⟨k, l, h1, h2⟩ := pend_pos this
      exact ⟨k + 1, l, by simpa using h1, h2⟩

/-! ### A batch -/

/-- Verbs for different nodes, of one piece each. -/
structure Asks (n : Nat) (vs : List Verb) : Prop where
  node : ∀ v ∈ vs, 0 ≤ v.node ∧ v.node < n
  one : ∀ v ∈ vs, Single v
  diff : ∀ (k k' : Nat) (v v' : Verb), vs[k]? = some v → vs[k']? = some v' → v.node = v'.node → k = k'

/-- The batch vs of compute node c is under way; N are the nodes as they were when it was posted. -/
structure Bat (N : List NodeS) (vs : List Verb) (c : Nat) (F : Fab) (C : Comp) (ds : List Done) : Prop where
  cl : F.clients[c]? = some C
  batch : C.batch = some ds
  len : ds.length = vs.length
  orph : F.orphans = []
  quiet : ∀ (i : Nat) (D : Comp), i ≠ c → F.clients[i]? = some D → idleC D
  lane : ∀ (j : Nat) (l : Lane), C.lanes[j]? = some l → l.pair.verbs = [] ∨ ∃ (k : Nat) (v : Verb), vs[k]? = some v ∧ v.node = (j : Int) ∧ l.pair.verbs = [v] ∧ l.places = [k]
  pend : ∀ (k : Nat) (v : Verb), vs[k]? = some v → ∃ n0, N[v.node.toNat]? = some n0 ∧
    ((∃ l, C.lanes[v.node.toNat]? = some l ∧ l.pair.verbs = [v] ∧ l.places = [k] ∧ F.nodes[v.node.toNat]? = some n0) ∨
     ((∃ l, C.lanes[v.node.toNat]? = some l ∧ l.pair.verbs = []) ∧ ds[k]? = some (serve C.inc c v n0).1 ∧ F.nodes[v.node.toNat]? = some (serve C.inc c v n0).2))
  rest : ∀ j : Nat, (∀ v ∈ vs, v.node ≠ (j : Int)) → F.nodes[j]? = N[j]?

theorem Bat.choice {N : List NodeS} {vs : List Verb} {c : Nat} {F : Fab} {C : Comp} {ds : List Done} (h : Bat N vs c F C ds) {x : Choice} (hx : x ∈ F.choices) : ∃ (j : Nat) (l : Lane), C.lanes[j]? = some l ∧ 0 < l.pair.verbs.length ∧ x = ⟨-1, c, j⟩ := by
  unfold Fab.choices at hx
  rw [h.orph] at hx
  have hx' : x ∈ compChoices 0 F.clients := by simpa [orphChoices] using hx
  obtain ⟨q, D, k, l, h1, h2, h3, h4⟩ := compChoices_mem hx'
  by_cases hq : q = c
  · subst hq
    rw [h.cl] at h1
    cases h1
    exact ⟨k, l, h2, h3, by rw [h4]; simp⟩
  · have := h.quiet q D hq h1 l (List.mem_of_getElem? h2)
    rw [this] at h3
    simp at h3

/-- Compute nodes that agree but for lanes, batch and waiting. -/
structure SameC (C C' : Comp) : Prop where
  alive : C'.alive = C.alive
  inc : C'.inc = C.inc
  trips : C'.trips = C.trips
  posted : C'.posted = C.posted

theorem SameC.refl (C : Comp) : SameC C C := ⟨rfl, rfl, rfl, rfl⟩
theorem SameC.trans {C D E : Comp} (h : SameC C D) (k : SameC D E) : SameC C E := ⟨k.alive.trans h.alive, k.inc.trans h.inc, k.trips.trans h.trips, k.posted.trans h.posted⟩

/-- What else stays in a step. -/
structure SameF (c : Nat) (F F' : Fab) : Prop where
  lines : F'.lines = F.lines
  clen : F'.clients.length = F.clients.length
  others : ∀ i, i ≠ c → F'.clients[i]? = F.clients[i]?
  nlen : F'.nodes.length = F.nodes.length

theorem SameF.refl (c : Nat) (F : Fab) : SameF c F F := ⟨rfl, rfl, fun _ _ => rfl, rfl⟩
theorem SameF.trans {c : Nat} {F G H : Fab} (h : SameF c F G) (k : SameF c G H) : SameF c F H := ⟨k.lines.trans h.lines, k.clen.trans h.clen, fun i hi => (k.others i hi).trans (h.others i hi), k.nlen.trans h.nlen⟩

theorem Bat.step {N : List NodeS} {vs : List Verb} {c : Nat} {F : Fab} {C : Comp} {ds : List Done} (h : Bat N vs c F C ds) (hA : Asks F.nodes.length vs) (hG : Good F) {x : Choice} (hx : x ∈ F.choices) :
    ∃ (F' : Fab) (C' : Comp) (ds' : List Done), F.step x = (true, F') ∧ Bat N vs c F' C' ds' ∧ SameC C C' ∧ SameF c F F' ∧ C'.waiting + 1 = C.waiting := by
  obtain ⟨j, l, hl, hp, rfl⟩ := h.choice hx
  have hC := hG.ok.client c C h.cl
  have hlt := (List.getElem?_eq_some_iff.1 hl).1
  have hclt := (List.getElem?_eq_some_iff.1 h.cl).1
  have hPG := hG.cl C (List.mem_of_getElem? h.cl) l (List.mem_of_getElem? hl)
  have hL := hC.lane j l hl
  rcases h.lane j l hl with h0 | ⟨k, v, hk, hvj, hlv, hlp⟩
  · rw [h0] at hp; simp at hp
  obtain ⟨n0, hn0, hcase⟩ := h.pend k v hk
  have hvm := List.mem_of_getElem? hk
  have hvt : v.node.toNat = j := by omega
  rw [hvt] at hn0 hcase
  have hnj : F.nodes[j]? = some n0 := by
    rcases hcase with ⟨l', hl', _, _, hnj⟩ | ⟨⟨l', hl', he⟩, _⟩
    · exact hnj
    · rw [hl] at hl'; cases hl'; rw [hlv] at he; cases he
  have hklt : k < ds.length := by rw [h.len]; exact (List.getElem?_eq_some_iff.1 hk).1
  have hjn : j < F.nodes.length := (List.getElem?_eq_some_iff.1 hnj).1
  have hst := step_single hlv (hA.one v hvm) hPG n0
  have hinc : l.pair.inc = C.inc := hL.inc
  have hcli : l.pair.client = c := hL.client
  rw [hinc, hcli] at hst
  have hcl : F.cl (c : Int) = some C := by
    unfold Fab.cl
    rw [if_neg (by omega), Int.toNat_natCast]
    exact h.cl
  have hcs : C.comes j l l.pair.done (some (serve C.inc c v n0).1) = { C with lanes := C.lanes.set j ⟨l.pair.done, []⟩, batch := some (ds.set k (serve C.inc c v n0).1), waiting := C.waiting - 1 } := by
    unfold Comp.comes
    rw [h.batch, hlp]
    rfl
  refine ⟨{ F with nodes := F.nodes.set j (serve C.inc c v n0).2, clients := F.clients.set c { C with lanes := C.lanes.set j ⟨l.pair.done, []⟩, batch := some (ds.set k (serve C.inc c v n0).1), waiting := C.waiting - 1 } }, _, ds.set k (serve C.inc c v n0).1, ?_, ⟨List.getElem?_set_self hclt, rfl, by rw [List.length_set]; exact h.len, h.orph, ?_, ?_, ?_, ?_⟩, ⟨rfl, rfl, rfl, rfl⟩, ⟨rfl, by simp, fun i hi => List.getElem?_set_ne (fun e => hi e.symm), by simp⟩, ?_⟩
  · unfold Fab.step
    rw [if_neg (show ¬ (0 : Int) ≤ -1 by decide), if_neg (show ¬ (-1 : Int) < -1 by decide)]
    dsimp only
    rw [hcl]
    dsimp only
    rw [if_neg (by omega), Int.toNat_natCast, hl, hnj]
    dsimp only
    rw [if_neg (by omega), hst, hcs, Int.toNat_natCast]
  · intro i D hi hD
    rw [List.getElem?_set_ne (fun e => hi e.symm)] at hD
    exact h.quiet i D hi hD
  · intro j' l' hl'
    rcases get_set hlt hl' with ⟨e, rfl⟩ | ⟨e, hl'⟩
    · left
      show l.pair.verbs.tail = []
      rw [hlv]
      rfl
    · exact h.lane j' l' hl'
  · intro k' v' hk'
    by_cases hkk : k' = k
    · subst hkk
      rw [hk] at hk'
      cases hk'
      refine ⟨n0, by rw [hvt]; exact hn0, .inr ⟨⟨⟨l.pair.done, []⟩, ?_, ?_⟩, List.getElem?_set_self hklt, ?_⟩⟩
      · rw [hvt]; exact List.getElem?_set_self hlt
      · show l.pair.verbs.tail = []
        rw [hlv]
        rfl
      · rw [hvt]; exact List.getElem?_set_self hjn
    · obtain ⟨n1, hn1, hc1⟩ := h.pend k' v' hk'
      have hne : v'.node.toNat ≠ j := by
        intro e
        have h1 := hA.node v' (List.mem_of_getElem? hk')
        exact hkk (hA.diff k' k v' v hk' hk (by omega))
      refine ⟨n1, hn1, ?_⟩
      rcases hc1 with ⟨l1, g1, g2, g3, g4⟩ | ⟨⟨l1, g1, g2⟩, g3, g4⟩
      · exact .inl ⟨l1, by rw [List.getElem?_set_ne (fun e => hne e.symm)]; exact g1, g2, g3, by rw [List.getElem?_set_ne (fun e => hne e.symm)]; exact g4⟩
      · exact .inr ⟨⟨l1, by rw [List.getElem?_set_ne (fun e => hne e.symm)]; exact g1, g2⟩, by rw [List.getElem?_set_ne (fun e => hkk e.symm)]; exact g3, by rw [List.getElem?_set_ne (fun e => hne e.symm)]; exact g4⟩
  · intro i hi
    rw [List.getElem?_set_ne (fun e => hi v hvm (by omega))]
    exact h.rest i hi
  · have hw := hC.waiting
    have h1 : 0 < Go.Proofs.YteaknokogenndaaGreat.pend C.lanes := by
      have := pend_set (l' := l) hl
      have h2 : l.pair.verbs.length ≤ Go.Proofs.YteaknokogenndaaGreat.pend C.lanes := by
        have h3 : ∀ {ls : List Lane} {q : Nat} {a : Lane}, ls[q]? = some a → a.pair.verbs.length ≤ Go.Proofs.YteaknokogenndaaGreat.pend ls := by
          intro ls
          induction ls with
          | nil => intro q a hq; simp at hq
          | cons y ys ih =>
            intro q a hq
            cases q with
            | zero => simp at hq; subst hq; simp [Go.Proofs.YteaknokogenndaaGreat.pend]
            | succ q =>
              have := ih (by simpa using hq : ys[q]? = some a)
              simp [Go.Proofs.YteaknokogenndaaGreat.pend] at this ⊢
              omega
        exact h3 hl
      omega
    show C.waiting - 1 + 1 = C.waiting
    omega
end Go.Proofs.YteaknokogenndaaGreat
