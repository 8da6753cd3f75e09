import Derived.Test.YteaknokogenndaaGreatAlone
/- A batch of a compute node that is alone on the fabric. -/
set_option linter.unusedVariables false
namespace Go.Proofs.YteaknokogenndaaGreat
open Go.Eng

/-! ### One verb of one piece -/

def refuse (inc client : Int) (x : Verb) (n : NodeS) : Int :=
  if n.down = true then 4 else if x.v.valid 5 (n.words.length / 8 : Nat) ≠ 0 then 2 else x.v.check inc (n.get (24 + client).toNat) (n.get 0) (n.get 1)

def serve (inc client : Int) (x : Verb) (n : NodeS) : Done × NodeS :=
  if refuse inc client x n ≠ 0 then (⟨refuse inc client x n, []⟩, n) else (⟨0, (exec x (x.at_, 1) n).2⟩, (exec x (x.at_, 1) n).1)

structure Single (x : Verb) : Prop where
  pieces : x.v.pieces = [(x.at_, 1)]

theorem single_of {x : Verb} (h : x.v.count = 1) : Single x := by
  refine ⟨?_⟩
  unfold VerbV.pieces
  rw [h]
  exact piecesFrom_one 1 _ (by omega)

theorem step_single {p : Pair} {x : Verb} (hv : p.verbs = [x]) (hs : Single x) (hg : PairGood p) (n : NodeS) : p.step n = (p.done, (serve p.inc p.client x n).2, some (serve p.inc p.client x n).1) := by
  have he : p.executed = 0 := by
    have := hg.rdy x [] hv
    rw [hs.pieces] at this
    simp at this
    exact this
  have hw : p.words = [] := hg.zero he
  have hr : p.refusal x n = refuse p.inc p.client x n := rfl
  unfold Pair.step
  rw [hv]
  dsimp only
  rw [hr]
  unfold serve
  split
  · rfl
  · rw [he, hs.pieces, hw]
    rfl

/-! ### Choices -/

theorem laneChoices_mem {i : Nat} : ∀ {j : Nat} {ls : List Lane} {x : Choice}, x ∈ laneChoices i j ls → ∃ k l, ls[k]? = some l ∧ 0 < l.pair.verbs.length ∧ x = ⟨-1, i, (j + k : Nat)⟩
  | _, [], x, h => by simp [laneChoices] at h
  | j, l :: ls, x, h => by
    unfold laneChoices at h
    rcases List.mem_append.1 h with h | h
    · split at h
      · rename_i hv
        simp at h
        exact ⟨0, l, rfl, hv, by rw [h]; simp⟩
      · simp at h
    · obtain ⟨k, l', h1, h2, h3⟩ := laneChoices_mem h
      refine ⟨k + 1, l', by simpa using h1, h2, ?_⟩
      rw [h3]
      congr 2
      omega

theorem laneChoices_of {i : Nat} : ∀ {j : Nat} {ls : List Lane} {k : Nat} {l : Lane}, ls[k]? = some l → 0 < l.pair.verbs.length → laneChoices i j ls ≠ []
  | _, [], k, l, h, _ => by simp at h
  | j, a :: ls, 0, l, h, hv => by
    simp at h
    subst h
    unfold laneChoices
    rw [if_pos hv]
    simp
  | j, a :: ls, k + 1, l, h, hv => by
    unfold laneChoices
    intro he
    exact laneChoices_of (j := j + 1) (by simpa using h) hv (List.append_eq_nil_iff.1 he).2

theorem compChoices_mem : ∀ {i : Nat} {cs : List Comp} {x : Choice}, x ∈ compChoices i cs → ∃ q C k l, cs[q]? = some C ∧ C.lanes[k]? = some l ∧ 0 < l.pair.verbs.length ∧ x = ⟨-1, (i + q : Nat), (k : Nat)⟩
  | _, [], x, h => by simp [compChoices] at h
  | i, C :: cs, x, h => by
    unfold compChoices at h
    rcases List.mem_append.1 h with h | h
    · obtain ⟨k, l, h1, h2, h3⟩ := laneChoices_mem h
      exact ⟨0, C, k, l, rfl, h1, h2, by rw [h3]; simp⟩
    · obtain ⟨q, D, k, l, h1, h2, h3, h4⟩ := compChoices_mem h
      refine ⟨q + 1, D, k, l, by simpa using h1, h2, h3, ?_⟩
      rw [h4]
      congr 2
      omega

theorem compChoices_of : ∀ {i : Nat} {cs : List Comp} {q : Nat} {C : Comp} {k : Nat} {l : Lane}, cs[q]? = some C → C.lanes[k]? = some l → 0 < l.pair.verbs.length → compChoices i cs ≠ []
  | _, [], q, C, k, l, h, _, _ => by simp at h
  | i, D :: cs, 0, C, k, l, h, h2, h3 => by
    simp at h
    subst h
    unfold compChoices
    intro he
    exact laneChoices_of h2 h3 (List.append_eq_nil_iff.1 he).1
  | i, D :: cs, q + 1, C, k, l, h, h2, h3 => by
    unfold compChoices
    intro he
    exact compChoices_of (i := i + 1) (by simpa using h) h2 h3 (List.append_eq_nil_iff.1 he).2

def idleC (C : Comp) : Prop := ∀ l ∈ C.lanes, l.pair.verbs = []
structure Quiet (F : Fab) : Prop where
  orph : F.orphans = []
  idle : ∀ C ∈ F.clients, idleC C

theorem Quiet.choices {F : Fab} (h : Quiet F) : F.choices = [] := by
  unfold Fab.choices
  rw [h.orph]
  show compChoices 0 F.clients ++ [] = []
  rw [List.append_nil]
  cases hc : compChoices 0 F.clients with
  | nil => rfl
  | cons x xs =>
    obtain ⟨q, C, k, l, h1, h2, h3, _⟩ := compChoices_mem (i := 0) (cs := F.clients) (x := x) (by rw [hc]; exact List.mem_cons_self)
    have := h.idle C (List.mem_of_getElem? h1) l (List.mem_of_getElem? h2)
    rw [this] at h3
    simp at h3

theorem pend_pos : ∀ {ls : List Lane}, 0 < pend ls → ∃ (k : Nat) (l : Lane), ls[k]? = some l ∧ 0 < l.pair.verbs.length
  | [], h => by simp [pend] at h
  | a :: ls, h => by
    by_cases ha : 0 < a.pair.verbs.length
    · exact ⟨0, a, rfl, ha⟩
    · have : 0 < pend ls := by simp [pend] at h ⊢; omega
      obtain ⟨k, l, h1, h2⟩ := pend_pos this
      exact ⟨k + 1, l, by simpa using h1, h2⟩

/-! ### A batch -/

/-- Verbs for different nodes, of one piece each. -/
structure Asks (n : Nat) (vs : List Verb) : Prop where
  node : ∀ v ∈ vs, 0 ≤ v.node ∧ v.node < n
  one : ∀ v ∈ vs, Single v
  diff : ∀ (k k' : Nat) (v v' : Verb), vs[k]? = some v → vs[k']? = some v' → v.node = v'.node → k = k'

/-- The batch vs of compute node c is under way; N are the nodes as they were when it was posted. -/
structure Bat (N : List NodeS) (vs : List Verb) (c : Nat) (F : Fab) (C : Comp) (ds : List Done) : Prop where
  cl : F.clients[c]? = some C
  batch : C.batch = some ds
  len : ds.length = vs.length
  orph : F.orphans = []
  quiet : ∀ (i : Nat) (D : Comp), i ≠ c → F.clients[i]? = some D → idleC D
  lane : ∀ (j : Nat) (l : Lane), C.lanes[j]? = some l → l.pair.verbs = [] ∨ ∃ (k : Nat) (v : Verb), vs[k]? = some v ∧ v.node = (j : Int) ∧ l.pair.verbs = [v] ∧ l.places = [k]
  pend : ∀ (k : Nat) (v : Verb), vs[k]? = some v → ∃ n0, N[v.node.toNat]? = some n0 ∧
    ((∃ l, C.lanes[v.node.toNat]? = some l ∧ l.pair.verbs = [v] ∧ l.places = [k] ∧ F.nodes[v.node.toNat]? = some n0) ∨
     ((∃ l, C.lanes[v.node.toNat]? = some l ∧ l.pair.verbs = []) ∧ ds[k]? = some (serve C.inc c v n0).1 ∧ F.nodes[v.node.toNat]? = some (serve C.inc c v n0).2))
  rest : ∀ j : Nat, (∀ v ∈ vs, v.node ≠ (j : Int)) → F.nodes[j]? = N[j]?

theorem Bat.choice {N : List NodeS} {vs : List Verb} {c : Nat} {F : Fab} {C : Comp} {ds : List Done} (h : Bat N vs c F C ds) {x : Choice} (hx : x ∈ F.choices) : ∃ (j : Nat) (l : Lane), C.lanes[j]? = some l ∧ 0 < l.pair.verbs.length ∧ x = ⟨-1, c, j⟩ := by
  unfold Fab.choices at hx
  rw [h.orph] at hx
  have hx' : x ∈ compChoices 0 F.clients := by simpa [orphChoices] using hx
  obtain ⟨q, D, k, l, h1, h2, h3, h4⟩ := compChoices_mem hx'
  by_cases hq : q = c
  · subst hq
    rw [h.cl] at h1
    cases h1
    exact ⟨k, l, h2, h3, by rw [h4]; simp⟩
  · have := h.quiet q D hq h1 l (List.mem_of_getElem? h2)
    rw [this] at h3
    simp at h3

/-- Compute nodes that agree but for lanes, batch and waiting. -/
structure SameC (C C' : Comp) : Prop where
  alive : C'.alive = C.alive
  inc : C'.inc = C.inc
  trips : C'.trips = C.trips
  posted : C'.posted = C.posted

theorem SameC.refl (C : Comp) : SameC C C := ⟨rfl, rfl, rfl, rfl⟩
theorem SameC.trans {C D E : Comp} (h : SameC C D) (k : SameC D E) : SameC C E := ⟨k.alive.trans h.alive, k.inc.trans h.inc, k.trips.trans h.trips, k.posted.trans h.posted⟩

/-- What else stays in a step. -/
structure SameF (c : Nat) (F F' : Fab) : Prop where
  lines : F'.lines = F.lines
  clen : F'.clients.length = F.clients.length
  others : ∀ i, i ≠ c → F'.clients[i]? = F.clients[i]?
  nlen : F'.nodes.length = F.nodes.length

theorem SameF.refl (c : Nat) (F : Fab) : SameF c F F := ⟨rfl, rfl, fun _ _ => rfl, rfl⟩
theorem SameF.trans {c : Nat} {F G H : Fab} (h : SameF c F G) (k : SameF c G H) : SameF c F H := ⟨k.lines.trans h.lines, k.clen.trans h.clen, fun i hi => (k.others i hi).trans (h.others i hi), k.nlen.trans h.nlen⟩

theorem Bat.step {N : List NodeS} {vs : List Verb} {c : Nat} {F : Fab} {C : Comp} {ds : List Done} (h : Bat N vs c F C ds) (hA : Asks F.nodes.length vs) (hG : Good F) {x : Choice} (hx : x ∈ F.choices) :
    ∃ (F' : Fab) (C' : Comp) (ds' : List Done), F.step x = (true, F') ∧ Bat N vs c F' C' ds' ∧ SameC C C' ∧ SameF c F F' ∧ C'.waiting + 1 = C.waiting := by
  obtain ⟨j, l, hl, hp, rfl⟩ := h.choice hx
  have hC := hG.ok.client c C h.cl
  have hlt := (List.getElem?_eq_some_iff.1 hl).1
  have hclt := (List.getElem?_eq_some_iff.1 h.cl).1
  have hPG := hG.cl C (List.mem_of_getElem? h.cl) l (List.mem_of_getElem? hl)
  have hL := hC.lane j l hl
  rcases h.lane j l hl with h0 | ⟨k, v, hk, hvj, hlv, hlp⟩
  · rw [h0] at hp; simp at hp
  obtain ⟨n0, hn0, hcase⟩ := h.pend k v hk
  have hvm := List.mem_of_getElem? hk
  have hvt : v.node.toNat = j := by omega
  rw [hvt] at hn0 hcase
  have hnj : F.nodes[j]? = some n0 := by
    rcases hcase with ⟨l', hl', _, _, hnj⟩ | ⟨⟨l', hl', he⟩, _⟩
    · exact hnj
    · rw [hl] at hl'; cases hl'; rw [hlv] at he; cases he
  have hklt : k < ds.length := by rw [h.len]; exact (List.getElem?_eq_some_iff.1 hk).1
  have hjn : j < F.nodes.length := (List.getElem?_eq_some_iff.1 hnj).1
  have hst := step_single hlv (hA.one v hvm) hPG n0
  have hinc : l.pair.inc = C.inc := hL.inc
  have hcli : l.pair.client = c := hL.client
  rw [hinc, hcli] at hst
  have hcl : F.cl (c : Int) = some C := by
    unfold Fab.cl
    rw [if_neg (by omega), Int.toNat_natCast]
    exact h.cl
  have hcs : C.comes j l l.pair.done (some (serve C.inc c v n0).1) = { C with lanes := C.lanes.set j ⟨l.pair.done, []⟩, batch := some (ds.set k (serve C.inc c v n0).1), waiting := C.waiting - 1 } := by
    unfold Comp.comes
    rw [h.batch, hlp]
    rfl
  refine ⟨{ F with nodes := F.nodes.set j (serve C.inc c v n0).2, clients := F.clients.set c { C with lanes := C.lanes.set j ⟨l.pair.done, []⟩, batch := some (ds.set k (serve C.inc c v n0).1), waiting := C.waiting - 1 } }, _, ds.set k (serve C.inc c v n0).1, ?_, ⟨List.getElem?_set_self hclt, rfl, by rw [List.length_set]; exact h.len, h.orph, ?_, ?_, ?_, ?_⟩, ⟨rfl, rfl, rfl, rfl⟩, ⟨rfl, by simp, fun i hi => List.getElem?_set_ne (fun e => hi e.symm), by simp⟩, ?_⟩
  · unfold Fab.step
    rw [if_neg (show ¬ (0 : Int) ≤ -1 by decide), if_neg (show ¬ (-1 : Int) < -1 by decide)]
    dsimp only
    rw [hcl]
    dsimp only
    rw [if_neg (by omega), Int.toNat_natCast, hl, hnj]
    dsimp only
    rw [if_neg (by omega), hst, hcs, Int.toNat_natCast]
  · intro i D hi hD
    rw [List.getElem?_set_ne (fun e => hi e.symm)] at hD
    exact h.quiet i D hi hD
  · intro j' l' hl'
    rcases get_set hlt hl' with ⟨e, rfl⟩ | ⟨e, hl'⟩
    · left
      show l.pair.verbs.tail = []
      rw [hlv]
      rfl
    · exact h.lane j' l' hl'
  · intro k' v' hk'
    by_cases hkk : k' = k
    · subst hkk
      rw [hk] at hk'
      cases hk'
      refine ⟨n0, by rw [hvt]; exact hn0, .inr ⟨⟨⟨l.pair.done, []⟩, ?_, ?_⟩, List.getElem?_set_self hklt, ?_⟩⟩
      · rw [hvt]; exact List.getElem?_set_self hlt
      · show l.pair.verbs.tail = []
        rw [hlv]
        rfl
      · rw [hvt]; exact List.getElem?_set_self hjn
    · obtain ⟨n1, hn1, hc1⟩ := h.pend k' v' hk'
      have hne : v'.node.toNat ≠ j := by
        intro e
        have h1 := hA.node v' (List.mem_of_getElem? hk')
        exact hkk (hA.diff k' k v' v hk' hk (by omega))
      refine ⟨n1, hn1, ?_⟩
      rcases hc1 with ⟨l1, g1, g2, g3, g4⟩ | ⟨⟨l1, g1, g2⟩, g3, g4⟩
      · exact .inl ⟨l1, by rw [List.getElem?_set_ne (fun e => hne e.symm)]; exact g1, g2, g3, by rw [List.getElem?_set_ne (fun e => hne e.symm)]; exact g4⟩
      · exact .inr ⟨⟨l1, by rw [List.getElem?_set_ne (fun e => hne e.symm)]; exact g1, g2⟩, by rw [List.getElem?_set_ne (fun e => hkk e.symm)]; exact g3, by rw [List.getElem?_set_ne (fun e => hne e.symm)]; exact g4⟩
  · intro i hi
    rw [List.getElem?_set_ne (fun e => hi v hvm (by omega))]
    exact h.rest i hi
  · have hw := hC.waiting
    have h1 : 0 < Go.Proofs.YteaknokogenndaaGreat.pend C.lanes := by
      have := pend_set (l' := l) hl
      have h2 : l.pair.verbs.length ≤ Go.Proofs.YteaknokogenndaaGreat.pend C.lanes := by
        have h3 : ∀ {ls : List Lane} {q : Nat} {a : Lane}, ls[q]? = some a → a.pair.verbs.length ≤ Go.Proofs.YteaknokogenndaaGreat.pend ls := by
          intro ls
          induction ls with
          | nil => intro q a hq; simp at hq
          | cons y ys ih =>
            intro q a hq
            cases q with
            | zero => simp at hq; subst hq; simp [Go.Proofs.YteaknokogenndaaGreat.pend]
            | succ q =>
              have := ih (by simpa using hq : ys[q]? = some a)
              simp [Go.Proofs.YteaknokogenndaaGreat.pend] at this ⊢
              omega
        exact h3 hl
      omega
    show C.waiting - 1 + 1 = C.waiting
    omega
end Go.Proofs.YteaknokogenndaaGreat
/- A batch of a compute node that is alone on the fabric, from its posting to its last completion. -/
set_option linter.unusedVariables false
namespace Go.Proofs.YteaknokogenndaaGreat
open Go.Eng

/-! ### Posting -/

/-- Lanes when the first k verbs of a batch have been posted. -/
structure LI (n : Nat) (vs : List Verb) (k : Nat) (ls : List Lane) : Prop where
  len : ls.length = n
  lane : ∀ (j : Nat) (l : Lane), ls[j]? = some l → (l.pair.verbs = [] ∧ l.places = []) ∨ ∃ (q : Nat) (v : Verb), q < k ∧ vs[q]? = some v ∧ v.node = (j : Int) ∧ l.pair.verbs = [v] ∧ l.places = [q]
  all : ∀ (q : Nat) (v : Verb), q < k → vs[q]? = some v → ∃ l, ls[v.node.toNat]? = some l ∧ l.pair.verbs = [v] ∧ l.places = [q]

theorem LI.post {n : Nat} {vs : List Verb} {k : Nat} {C : Comp} (h : LI n vs k C.lanes) (hA : Asks n vs) {v : Verb} (hk : vs[k]? = some v) : LI n vs (k + 1) (C.postOne k v).lanes := by
  have hvm := List.mem_of_getElem? hk
  have hvn := hA.node v hvm
  have hlt : v.node.toNat < C.lanes.length := by rw [h.len]; omega
  have hg : C.lanes[v.node.toNat]? = some C.lanes[v.node.toNat] := List.getElem?_eq_getElem hlt
  rw [postOne_lanes' hg]
  generalize C.lanes[v.node.toNat] = l0 at hg
  have hempty : l0.pair.verbs = [] ∧ l0.places = [] := by
    rcases h.lane _ _ hg with h0 | ⟨q, v', h1, h2, h3, _⟩
    · exact h0
    · exfalso
      have := hA.diff q k v' v h2 hk (by omega)
      omega
  refine ⟨by simpa using h.len, fun j l hl => ?_, fun q v' hq hv' => ?_⟩
  · rcases get_set hlt hl with ⟨e, rfl⟩ | ⟨e, hl⟩
    · exact .inr ⟨k, v, by omega, hk, by omega, by simp [laneAdd, hempty.1], by simp [laneAdd, hempty.2]⟩
    · rcases h.lane j l hl with h0 | ⟨q, v', h1, h2, h3, h4⟩
      · exact .inl h0
      · exact .inr ⟨q, v', by omega, h2, h3, h4⟩
  · by_cases hqk : q = k
    · subst hqk
      rw [hk] at hv'
      cases hv'
      exact ⟨laneAdd l0 q v, List.getElem?_set_self hlt, by simp [laneAdd, hempty.1], by simp [laneAdd, hempty.2]⟩
    · obtain ⟨l, h1, h2, h3⟩ := h.all q v' (by omega) hv'
      have hne : v.node.toNat ≠ v'.node.toNat := by
        intro e
        have h4 := hA.node v' (List.mem_of_getElem? hv')
        exact hqk (hA.diff q k v' v hv' hk (by omega))
      exact ⟨l, by rw [List.getElem?_set_ne hne]; exact h1, h2, h3⟩

theorem LI.posts {n : Nat} {vs : List Verb} (hA : Asks n vs) : ∀ (us : List Verb) (k : Nat) (C : Comp), (∀ i, us[i]? = vs[k + i]?) → k + us.length = vs.length → LI n vs k C.lanes → LI n vs vs.length (C.postFrom k us).lanes
  | [], k, C, _, hl, h => by
    have : k = vs.length := by simpa using hl
    subst this
    exact h
  | u :: us, k, C, hu, hl, h => by
    rw [Comp.postFrom]
    have hk : vs[k]? = some u := by have := hu 0; simpa using this.symm
    refine LI.posts hA us (k + 1) _ (fun i => ?_) (by simp at hl; omega) (h.post hA hk)
    have := hu (i + 1)
    rw [show k + 1 + i = k + (i + 1) by omega]
    simpa using this

/-- A compute node that may post, on a fabric that is otherwise quiet. -/
structure Calm (c : Nat) (F : Fab) (C : Comp) : Prop where
  fine : Fine F
  quiet : Quiet F
  cl : F.clients[c]? = some C
  alive : C.alive = true
  batch : C.batch = none

theorem cl_nat {F : Fab} {c : Nat} {C : Comp} (h : F.clients[c]? = some C) : F.cl (c : Int) = some C := by
  unfold Fab.cl
  rw [if_neg (by omega), Int.toNat_natCast]
  exact h

theorem Calm.post {c : Nat} {F : Fab} {C : Comp} (h : Calm c F C) {vs : List Verb} (hA : Asks F.nodes.length vs) (h0 : 0 < vs.length) (h1 : vs.length ≤ 1024) (hb : firstBad F.nodes.length F.lines vs = 0) :
    F.post c vs = (0, F.setC c (C.posted' vs)) ∧ Bat F.nodes vs c (F.setC c (C.posted' vs)) (C.posted' vs) (List.replicate vs.length ⟨0, []⟩) := by
  have hclt := (List.getElem?_eq_some_iff.1 h.cl).1
  have hC := h.fine.good.ok.client c C h.cl
  refine ⟨?_, ?_⟩
  · unfold Fab.post
    rw [cl_nat h.cl]
    dsimp only
    rw [if_neg (by rw [h.alive]; simp), if_neg (by rw [h.batch]; simp), if_neg (by omega), if_neg (by omega), if_neg (by omega)]
  · have hln : C.lanes.length = F.nodes.length := by rw [hC.lanes, h.alive]; rfl
    have hidle := h.quiet.idle C (List.mem_of_getElem? h.cl)
    have hLI : LI F.nodes.length vs 0 C.lanes := by
      refine ⟨hln, fun j l hl => .inl ?_, fun q v hq => by omega⟩
      have he := hidle l (List.mem_of_getElem? hl)
      have hp := (hC.lane j l hl).places
      rw [he] at hp
      exact ⟨he, List.eq_nil_of_length_eq_zero hp⟩
    have hfin := LI.posts hA vs 0 C (fun i => by rw [Nat.zero_add]) (by omega) hLI
    have hset : (F.setC c (C.posted' vs)).clients = F.clients.set c (C.posted' vs) := by unfold Fab.setC; simp
    refine ⟨?_, rfl, by simp, h.quiet.orph, fun i D hi hD => ?_, fun j l hl => ?_, fun k v hk => ?_, fun j _ => rfl⟩
    · rw [hset]; exact List.getElem?_set_self hclt
    · rw [hset, List.getElem?_set_ne (fun e => hi e.symm)] at hD
      exact h.quiet.idle D (List.mem_of_getElem? hD)
    · rcases hfin.lane j l hl with h2 | ⟨q, v, _, h3, h4, h5, h6⟩
      · exact .inl h2.1
      · exact .inr ⟨q, v, h3, h4, h5, h6⟩
    · have hv := hA.node v (List.mem_of_getElem? hk)
      have hn : F.nodes[v.node.toNat]? = some F.nodes[v.node.toNat] := List.getElem?_eq_getElem (by omega)
      obtain ⟨l, g1, g2, g3⟩ := hfin.all k v (List.getElem?_eq_some_iff.1 hk).1 hk
      exact ⟨_, hn, .inl ⟨l, g1, g2, g3, hn⟩⟩

/-! ### Driving one conversation -/

theorem turns_one {F : Fab} {t : Talk} : turns F [t] = ((turn F t).1, [(turn F t).2]) := rfl

theorem drive_turn {cs : List Int} {F F1 : Fab} {t t1 : Talk} (h1 : turn F t = (F1, t1)) (h2 : turn F1 t1 = (F1, t1)) (f n : Nat) : driveGo cs [] [] (f + 1) n F [t] = driveGo cs [] [] (f + 1) n F1 [t1] := by
  rw [driveGo, driveGo]
  rw [show happens F cs n [] = F from rfl, show happens F1 cs n [] = F1 from rfl, turns_one, turns_one, h1, h2]

theorem turn_wait {F : Fab} {t : Talk} {c : Nat} {C : Comp} (hc : F.clients[c]? = some C) (ht : t.client = c) (hw : 0 < C.waiting) : turn F t = (F, t) := by
  have h3 : 0 < F.waiting t.client := by
    unfold Fab.waiting
    rw [ht, cl_nat hc]
    exact hw
  unfold turn
  rw [if_pos (.inr (.inr h3))]

theorem drain {cs : List Int} {N : List NodeS} {vs : List Verb} {c : Nat} {t : Talk} (ht : t.client = c) : ∀ (W : Nat) (F : Fab) (C : Comp) (ds : List Done), Bat N vs c F C ds → Asks F.nodes.length vs → Fine F → C.waiting = W →
    ∃ (F' : Fab) (C' : Comp) (ds' : List Done), (∀ f n, driveGo cs [] [] (f + W) n F [t] = driveGo cs [] [] f (n + W) F' [t]) ∧ Bat N vs c F' C' ds' ∧ Fine F' ∧ C'.waiting = 0 ∧ SameC C C' ∧ SameF c F F'
  | 0, F, C, ds, h, hA, hF, hw => ⟨F, C, ds, fun f n => rfl, h, hF, hw, SameC.refl _, SameF.refl _ _⟩
  | W + 1, F, C, ds, h, hA, hF, hw => by
    have hC := hF.good.ok.client c C h.cl
    have hp : 0 < pend C.lanes := by have := hC.waiting; omega
    obtain ⟨k, l, hl, hlp⟩ := pend_pos hp
    have hne : F.choices ≠ [] := by
      unfold Fab.choices
      intro he
      exact compChoices_of h.cl hl hlp (List.append_eq_nil_iff.1 he).1
    obtain ⟨x, xs, hx⟩ := List.exists_cons_of_ne_nil hne
    have hxm : x ∈ F.choices := by rw [hx]; exact List.mem_cons_self
    obtain ⟨F1, C1, ds1, hst, hB1, hS1, hSF1, hW1⟩ := h.step hA hF.good hxm
    have hF1 : Fine F1 := by have := hF.step x; rw [hst] at this; exact this
    obtain ⟨F', C', ds', hd, hB', hF', hw', hS', hSF'⟩ := drain ht W F1 C1 ds1 hB1 (by rw [hSF1.nlen]; exact hA) hF1 (by omega)
    refine ⟨F', C', ds', fun f n => ?_, hB', hF', hw', hS1.trans hS', hSF1.trans hSF'⟩
    have hrs : rstep F [] n = (true, F1) := by
      unfold rstep
      have : rpick F [] n = 0 := rfl
      rw [this, hx]
      exact hst
    have htn := turn_wait h.cl ht (by omega : 0 < C.waiting)
    rw [show f + (W + 1) = (f + W) + 1 by omega, driveGo, show happens F cs n [] = F from rfl, turns_one, htn]
    dsimp only
    rw [hrs, if_pos rfl]
    dsimp only
    rw [hd f (n + 1)]
    congr 1
    omega

theorem Bat.done {N : List NodeS} {vs : List Verb} {c : Nat} {F : Fab} {C : Comp} {ds : List Done} (h : Bat N vs c F C ds) (hF : Fine F) (hw : C.waiting = 0) :
    idleC C ∧ ∀ (k : Nat) (v : Verb), vs[k]? = some v → ∃ n0, N[v.node.toNat]? = some n0 ∧ ds[k]? = some (serve C.inc c v n0).1 ∧ F.nodes[v.node.toNat]? = some (serve C.inc c v n0).2 := by
  have hC := hF.good.ok.client c C h.cl
  have hp : Go.Proofs.YteaknokogenndaaGreat.pend C.lanes = 0 := by rw [← hC.waiting]; exact hw
  have hid : idleC C := fun l hl => pend_zero hp l hl
  refine ⟨hid, fun k v hk => ?_⟩
  obtain ⟨n0, hn0, hc⟩ := h.pend k v hk
  rcases hc with ⟨l, g1, g2, _⟩ | ⟨_, g3, g4⟩
  · have := hid l (List.mem_of_getElem? g1)
    rw [this] at g2
    cases g2
  · exact ⟨n0, hn0, g3, g4⟩

/-- A conversation posts a batch, which is executed; it is then handed to the conversation. -/
theorem phase {cs : List Int} {c : Nat} {F : Fab} {C : Comp} (h : Calm c F C) {t : Talk} (ht : t.client = c) (hov : t.over = false) (hlen : t.got.length ≤ 200) {vs : List Verb} {o : Out} (hp : pnext t.job t.got = (vs, o, false)) (hA : Asks F.nodes.length vs) (h0 : 0 < vs.length) (h1 : vs.length ≤ 1024) (hb : firstBad F.nodes.length F.lines vs = 0) :
    ∃ (F2 F3 : Fab) (C3 : Comp) (ds : List Done), (∀ G t0, turn G t0 = tailP F t → ∀ f n, driveGo cs [] [] (f + vs.length) n G [t0] = driveGo cs [] [] f (n + vs.length) F2 [{ t with code := o.code, value := o.value }]) ∧
      turn F2 { t with code := o.code, value := o.value } = tailP F3 { t with code := o.code, value := o.value, got := t.got ++ [ds] } ∧ Calm c F3 C3 ∧ ds.length = vs.length ∧ SameF c F F3 ∧ C3.inc = C.inc ∧ C3.trips = IntKind.i64.wrap (C.trips + 1) ∧
      (∀ (k : Nat) (v : Verb), vs[k]? = some v → ∃ n0, F.nodes[v.node.toNat]? = some n0 ∧ ds[k]? = some (serve C.inc c v n0).1 ∧ F3.nodes[v.node.toNat]? = some (serve C.inc c v n0).2) ∧
      (∀ j : Nat, (∀ v ∈ vs, v.node ≠ (j : Int)) → F3.nodes[j]? = F.nodes[j]?) := by
  obtain ⟨hpost, hB⟩ := h.post hA h0 h1 hb
  have hclt := (List.getElem?_eq_some_iff.1 h.cl).1
  have hF1 : Fine (F.setC c (C.posted' vs)) := by have := h.fine.post c vs; rw [hpost] at this; exact this
  have htold : t.told = { t with code := o.code, value := o.value } := by
    unfold Talk.told
    rw [hp]
    rw [← hov]
  generalize ht' : ({ t with code := o.code, value := o.value } : Talk) = t' at htold ⊢
  have htc : t'.client = c := by rw [← ht']; exact ht
  have htail : tailP F t = (F.setC c (C.posted' vs), t') := by
    unfold tailP
    rw [if_neg (by omega), hp]
    dsimp only
    rw [if_neg (by simp), ht, hpost]
    dsimp only
    rw [if_neg (by simp), htold]
  have hwt : (C.posted' vs).waiting = vs.length := rfl
  have hnl : (F.setC c (C.posted' vs)).nodes.length = F.nodes.length := rfl
  obtain ⟨F2, C2, ds, hdr, hB2, hF2, hw2, hS2, hSF2⟩ := drain (cs := cs) htc vs.length _ _ _ hB (by rw [hnl]; exact hA) hF1 hwt
  obtain ⟨hid, hdone⟩ := hB2.done hF2 hw2
  have hal2 : C2.alive = true := by rw [hS2.alive]; show (C.postFrom 0 vs).alive = true; rw [(postFrom_same vs 0 C).1]; exact h.alive
  have hinc2 : C2.inc = C.inc := by rw [hS2.inc]; show (C.postFrom 0 vs).inc = C.inc; exact (postFrom_same vs 0 C).2
  have h2lt := (List.getElem?_eq_some_iff.1 hB2.cl).1
  have htake : F2.take c = (some ds, F2.setC c { C2 with batch := none }) := by
    unfold Fab.take
    rw [cl_nat hB2.cl]
    dsimp only
    rw [if_neg (by rw [hal2]; simp), hB2.batch]
    dsimp only
    rw [if_neg (by omega)]
  have hset3 : (F2.setC c { C2 with batch := none }).clients = F2.clients.set c { C2 with batch := none } := by unfold Fab.setC; simp
  refine ⟨F2, F2.setC c { C2 with batch := none }, { C2 with batch := none }, ds, fun G t0 hG f n => ?_, ?_, ⟨?_, ⟨hB2.orph, ?_⟩, ?_, hal2, rfl⟩, hB2.len, ?_, hinc2, ?_, ?_, ?_⟩
  · obtain ⟨m, hm⟩ : ∃ m, vs.length = m + 1 := ⟨vs.length - 1, by omega⟩
    have hw1 := turn_wait hB.cl htc (by rw [hwt]; exact h0)
    rw [show f + vs.length = (f + m) + 1 by omega, drive_turn (hG.trans htail) hw1, show (f + m) + 1 = f + vs.length by omega]
    exact hdr f n
  · have hal : F2.alive t'.client = true := by unfold Fab.alive; rw [htc, cl_nat hB2.cl]; exact hal2
    have hwz : F2.waiting t'.client = 0 := by unfold Fab.waiting; rw [htc, cl_nat hB2.cl]; exact hw2
    have hov' : t'.over = false := by rw [← ht']; exact hov
    unfold turn
    rw [if_neg (by rw [hal, hwz, hov']; simp), htc, htake, ← ht']
    rfl
  · have := hF2.take (c : Int)
    rw [htake] at this
    exact this
  · intro D hD
    rw [hset3] at hD
    obtain ⟨i, hi⟩ := List.mem_iff_getElem?.1 hD
    rcases get_set h2lt hi with ⟨e, rfl⟩ | ⟨e, hi⟩
    · exact hid
    · exact hB2.quiet i D (fun e' => e e'.symm) hi
  · rw [hset3]; exact List.getElem?_set_self h2lt
  · have h4 : SameF c F (F.setC c (C.posted' vs)) := ⟨rfl, by unfold Fab.setC; simp, fun i hi => by unfold Fab.setC; simp; rw [List.getElem?_set_ne (fun e => hi e.symm)], rfl⟩
    have h5 : SameF c F2 (F2.setC c { C2 with batch := none }) := ⟨rfl, by rw [hset3]; simp, fun i hi => by rw [hset3, List.getElem?_set_ne (fun e => hi e.symm)], rfl⟩
    exact (h4.trans hSF2).trans h5
  · show C2.trips = _
    rw [hS2.trips]
    rfl
  · intro k v hk
    have := hdone k v hk
    rw [hinc2] at this
    exact this
  · intro j hj
    exact hB2.rest j hj

theorem over_done {cs : List Int} {G F : Fab} {t0 t : Talk} (h : turn G t0 = (F, t)) (ho : t.over = true) (hq : Quiet F) (f n : Nat) : driveGo cs [] [] (f + 1) n G [t0] = (F, [t]) ∧ turns F [t] = (F, [t]) := by
  have hrs : rstep F [] n = (false, F) := by
    unfold rstep
    rw [hq.choices]
    rfl
  refine ⟨?_, ?_⟩
  · rw [driveGo, show happens G cs n [] = G from rfl, turns_one, h]
    dsimp only
    rw [hrs]
    rfl
  · rw [turns_one]
    have : turn F t = (F, t) := by unfold turn; rw [if_pos (.inl ho)]
    rw [this]
end Go.Proofs.YteaknokogenndaaGreat
/- A proposer that is alone on the fabric: what it does to the nodes, and how it ends. -/
set_option linter.unusedVariables false
namespace Go.Proofs.YteaknokogenndaaGreat
open Go.Eng

/-! ### Verbs of a proposer at a node -/

structure NodeOk (lines : Nat) (n : NodeS) : Prop where
  len : n.words.length = lines * 8
  l98 : 98 ≤ lines
  l256 : lines ≤ 256

def rep (a : Nat) (n : NodeS) : Done := if n.down = true then ⟨4, []⟩ else ⟨0, [n.get a]⟩

theorem rd_valid {i : Int} {a : Nat} {n lines : Int} (hn : 1 ≤ n ∧ n ≤ 5) (hi : 0 ≤ i ∧ i < n) (ha : 8 ≤ a ∧ a ≤ 23) (hl : 98 ≤ lines ∧ lines ≤ 256) : (rdVerb i a).v.valid n lines = 0 := by
  have hc : (rdVerb i a).v.count = 1 := rfl
  have hin : (rdVerb i a).v.inside n lines = true := by
    unfold VerbV.inside
    rw [decide_eq_true_iff]
    have e0 : (rdVerb i a).v.l0 = (a : Int) / 8 := rfl
    have e1 : (rdVerb i a).v.l1 = ((a : Int) + 1 - 1) / 8 := rfl
    have e2 : (rdVerb i a).v.Node = i := rfl
    have e3 : (rdVerb i a).v.At = a := rfl
    rw [hc, e0, e1, e2, e3]
    omega
  have e1 : (rdVerb i a).v.l1 = ((a : Int) + 1 - 1) / 8 := rfl
  have e4 : (rdVerb i a).v.last = 3 := rfl
  unfold VerbV.valid
  rw [hc, hin, e1, e4, if_neg (by omega), if_neg (by simp), if_neg (by omega)]

theorem cas_valid {i old new : Int} {a : Nat} {n lines : Int} (hn : 1 ≤ n ∧ n ≤ 5) (hi : 0 ≤ i ∧ i < n) (ha : 8 ≤ a ∧ a ≤ 23) (hl : 98 ≤ lines ∧ lines ≤ 256) : (casVerb i a old new).v.valid n lines = 0 := by
  have hc : (casVerb i a old new).v.count = 1 := rfl
  have e1 : (casVerb i a old new).v.l1 = ((a : Int) + 1 - 1) / 8 := rfl
  have e4 : (casVerb i a old new).v.last = 2 := rfl
  have hin : (casVerb i a old new).v.inside n lines = true := by
    unfold VerbV.inside
    rw [decide_eq_true_iff]
    have e0 : (casVerb i a old new).v.l0 = (a : Int) / 8 := rfl
    have e2 : (casVerb i a old new).v.Node = i := rfl
    have e3 : (casVerb i a old new).v.At = a := rfl
    rw [hc, e0, e1, e2, e3]
    omega
  unfold VerbV.valid
  rw [hc, hin, e1, e4, if_neg (by omega), if_neg (by simp), if_neg (by omega)]

theorem NodeOk.div {lines : Nat} {n : NodeS} (h : NodeOk lines n) : n.words.length / 8 = lines := by have := h.len; omega

theorem refuse_zero {inc client : Int} {x : Verb} {n : NodeS} (hd : n.down = false) (hv : x.v.valid 5 (n.words.length / 8 : Nat) = 0) (hk : x.v.check inc (n.get (24 + client).toNat) (n.get 0) (n.get 1) = 0) : refuse inc client x n = 0 := by
  unfold refuse
  rw [if_neg (by rw [hd]; simp), if_neg (fun e => e hv)]
  exact hk

theorem refuse_down {inc client : Int} {x : Verb} {n : NodeS} (hd : n.down = true) : refuse inc client x n = 4 := by
  unfold refuse
  rw [if_pos hd]

theorem serve_ok {inc client : Int} {x : Verb} {n : NodeS} (h : refuse inc client x n = 0) : serve inc client x n = (⟨0, (exec x (x.at_, 1) n).2⟩, (exec x (x.at_, 1) n).1) := by
  unfold serve
  rw [if_neg (fun e => e h)]

theorem serve_no {inc client : Int} {x : Verb} {n : NodeS} (h : refuse inc client x n ≠ 0) : serve inc client x n = (⟨refuse inc client x n, []⟩, n) := by
  unfold serve
  rw [if_pos h]

theorem serve_rd {inc : Int} {c i lines a : Nat} {n : NodeS} (h : NodeOk lines n) (hi : i < 5) (ha : 8 ≤ a ∧ a ≤ 23) : serve inc c (rdVerb i a) n = (rep a n, n) := by
  have hv : (rdVerb i a).v.valid 5 (n.words.length / 8 : Nat) = 0 := by
    rw [h.div]
    exact rd_valid (by omega) (by omega) ha (by have := h.l98; have := h.l256; omega)
  have hcls : (rdVerb i a).v.cls = 1 := by
    unfold VerbV.cls
    have e0 : (rdVerb i a).v.l0 = (a : Int) / 8 := rfl
    have e4 : (rdVerb i a).v.last = 3 := rfl
    rw [e0, e4, if_pos (by omega)]
  have hck : ∀ d k b, (rdVerb i a).v.check inc d k b = 0 := by
    intro d k b
    unfold VerbV.check
    rw [if_pos ⟨hcls, rfl⟩]
  unfold rep
  cases hd : n.down with
  | true => rw [serve_no (by rw [refuse_down hd]; decide), refuse_down hd]; simp
  | false =>
    rw [serve_ok (refuse_zero hd hv (hck _ _ _))]
    have hlen := h.len
    have hlt : a < n.words.length := by have := h.l98; omega
    have hx : exec (rdVerb i a) ((rdVerb i a).at_, 1) n = (n, [n.get a]) := by
      unfold exec
      rw [if_pos (show (rdVerb i a).kind = 1 from rfl)]
      show (n, n.read (a : Int) 1) = _
      congr 1
      unfold NodeS.read
      rw [Int.toNat_natCast, List.drop_eq_getElem_cons hlt]
      have hs := NodeS.get_some hlt
      rw [List.getElem?_eq_getElem hlt] at hs
      rw [Option.some.inj hs]
      rfl
    rw [hx]
    simp

theorem serve_cas {inc : Int} {c i lines a : Nat} {old new : Int} {n : NodeS} (h : NodeOk lines n) (hi : i < 5) (ha : 8 ≤ a ∧ a ≤ 23) (hinc : 0 ≤ inc) (hdoor : n.get (24 + c) ≤ inc) (hd : n.down = false) (hold : n.get a = old) :
    serve inc c (casVerb i a old new) n = (⟨0, [old]⟩, { n with words := n.words.set a new }) := by
  have hv : (casVerb i a old new).v.valid 5 (n.words.length / 8 : Nat) = 0 := by
    rw [h.div]
    exact cas_valid (by omega) (by omega) ha (by have := h.l98; have := h.l256; omega)
  have hcls : (casVerb i a old new).v.cls = 1 := by
    unfold VerbV.cls
    have e0 : (casVerb i a old new).v.l0 = (a : Int) / 8 := rfl
    have e4 : (casVerb i a old new).v.last = 2 := rfl
    rw [e0, e4, if_pos (by omega)]
  have hk3 : (casVerb i a old new).v.Kind = 3 := rfl
  have hck : ∀ k b, (casVerb i a old new).v.check inc (n.get (24 + (c : Int)).toNat) k b = 0 := by
    intro k b
    unfold VerbV.check
    have e : (24 + (c : Int)).toNat = 24 + c := by omega
    rw [hcls, hk3, e, if_neg (by omega), if_neg (by omega), if_pos rfl]
  rw [serve_ok (refuse_zero hd hv (hck _ _))]
  have hx : exec (casVerb i a old new) ((casVerb i a old new).at_, 1) n = ({ n with words := n.words.set a new }, [old]) := by
    unfold exec
    have k3 : (casVerb i a old new).kind = 3 := rfl
    rw [if_neg (by rw [k3]; decide), if_neg (by rw [k3]; decide), if_pos k3]
    show (n.cas (a : Int) old new, [n.get (a : Int).toNat]) = _
    unfold NodeS.cas
    rw [Int.toNat_natCast, if_pos hold, hold]
  rw [hx]

/-! ### The nodes that answer -/

def upsFrom (a : Nat) : Nat → List NodeS → List Acc
  | _, [] => []
  | i, n :: ns => if n.down = true then upsFrom a (i + 1) ns else ⟨i, n.get a⟩ :: upsFrom a (i + 1) ns

theorem readGo_ups (a : Nat) : ∀ (N : List NodeS) (i : Nat) (acc : List Acc) (g : Int), ∃ g', readGo i (N.map (rep a)) acc g = (acc ++ upsFrom a i N, g')
  | [], i, acc, g => ⟨g, by simp [readGo, upsFrom]⟩
  | n :: N, i, acc, g => by
    unfold upsFrom
    rw [List.map_cons]
    unfold readGo rep
    cases hd : n.down with
    | true =>
      simp only [if_true]
      rw [if_neg (by decide)]
      exact readGo_ups a N (i + 1) acc g
    | false =>
      simp only [Bool.false_eq_true, if_false, if_true]
      obtain ⟨g', h⟩ := readGo_ups a N (i + 1) (acc ++ [⟨i, wordOf ⟨0, [n.get a]⟩⟩]) (max g (cwP (wordOf ⟨0, [n.get a]⟩)))
      refine ⟨g', ?_⟩
      rw [show (fun n => if n.down = true then (⟨4, []⟩ : Done) else ⟨0, [n.get a]⟩) = rep a from rfl] at *
      rw [h]
      simp [wordOf]

theorem ups_mem {a : Nat} : ∀ {N : List NodeS} {i : Nat} {x : Acc}, x ∈ upsFrom a i N → ∃ (k : Nat) (n : NodeS), N[k]? = some n ∧ n.down = false ∧ x = ⟨((i + k : Nat) : Int), n.get a⟩
  | [], i, x, h => by simp [upsFrom] at h
  | n :: N, i, x, h => by
    unfold upsFrom at h
    cases hd : n.down with
    | true =>
      rw [hd] at h
      simp only [if_true] at h
      obtain ⟨k, m, h1, h2, h3⟩ := ups_mem h
      exact ⟨k + 1, m, by simpa using h1, h2, by rw [h3]; congr 2; omega⟩
    | false =>
      rw [hd] at h
      simp only [Bool.false_eq_true, if_false] at h
      rcases List.mem_cons.1 h with rfl | h
      · exact ⟨0, n, rfl, hd, by simp⟩
      · obtain ⟨k, m, h1, h2, h3⟩ := ups_mem h
        exact ⟨k + 1, m, by simpa using h1, h2, by rw [h3]; congr 2; omega⟩

theorem ups_of {a : Nat} : ∀ {N : List NodeS} {i k : Nat} {n : NodeS}, N[k]? = some n → n.down = false → (⟨((i + k : Nat) : Int), n.get a⟩ : Acc) ∈ upsFrom a i N
  | [], i, k, n, h, _ => by simp at h
  | m :: N, i, 0, n, h, hd => by
    simp at h
    subst h
    unfold upsFrom
    rw [hd]
    simp
  | m :: N, i, k + 1, n, h, hd => by
    have := ups_of (a := a) (N := N) (i := i + 1) (k := k) (by simpa using h) hd
    unfold upsFrom
    rw [show i + (k + 1) = i + 1 + k by omega]
    split
    · exact this
    · exact List.mem_cons_of_mem _ this

theorem ups_sorted (a : Nat) : ∀ (N : List NodeS) (i : Nat), (upsFrom a i N).Pairwise fun x y => x.node < y.node
  | [], i => by simp [upsFrom]
  | n :: N, i => by
    unfold upsFrom
    split
    · exact ups_sorted a N (i + 1)
    · refine List.pairwise_cons.2 ⟨fun y hy => ?_, ups_sorted a N (i + 1)⟩
      obtain ⟨k, m, _, _, rfl⟩ := ups_mem hy
      show (i : Int) < ((i + 1 + k : Nat) : Int)
      omega

theorem sorted_inj : ∀ {l : List Acc}, (l.Pairwise fun x y => x.node < y.node) → ∀ (k k' : Nat) (x y : Acc), l[k]? = some x → l[k']? = some y → x.node = y.node → k = k'
  | [], _, k, k', x, y, h, _, _ => by simp at h
  | a :: l, hp, 0, 0, x, y, _, _, _ => rfl
  | a :: l, hp, 0, k' + 1, x, y, h1, h2, he => by
    simp at h1 h2
    subst h1
    have := (List.pairwise_cons.1 hp).1 y (List.mem_of_getElem? h2)
    omega
  | a :: l, hp, k + 1, 0, x, y, h1, h2, he => by
    simp at h1 h2
    subst h2
    have := (List.pairwise_cons.1 hp).1 x (List.mem_of_getElem? h1)
    omega
  | a :: l, hp, k + 1, k' + 1, x, y, h1, h2, he => by
    have := sorted_inj (List.pairwise_cons.1 hp).2 k k' x y (by simpa using h1) (by simpa using h2) he
    omega

theorem swap_all (nx : Int → Int) : ∀ (l : List Acc) (n : Nat) (acc : List Acc) (g : Int), swapGo nx l (l.map fun x => ⟨0, [x.word]⟩) n acc g = (n + l.length, acc ++ l.map (fun x => ⟨x.node, nx x.word⟩), g)
  | [], n, acc, g => by simp [swapGo]
  | x :: l, n, acc, g => by
    rw [List.map_cons]
    unfold swapGo
    rw [if_neg (by simp), if_neg (by simp [wordOf]), swap_all nx l]
    simp [wordOf]
    omega

theorem fitL_of {vs : List Verb} {ds : List Done} (hl : vs.length = ds.length) (h : ∀ (k : Nat) (v : Verb) (d : Done), vs[k]? = some v → ds[k]? = some d → fitP v d = true) : fitL vs ds = true := by
  unfold fitL
  rw [Bool.and_eq_true]
  refine ⟨by simpa using hl, ?_⟩
  rw [List.all_eq_true]
  intro p hp
  obtain ⟨k, hk⟩ := List.mem_iff_getElem?.1 hp
  obtain ⟨v, d⟩ := p
  rw [List.getElem?_zip_eq_some] at hk
  exact h k v d hk.1 hk.2

theorem batch_cons {vs : List Verb} {d : List Done} {G : List (List Done)} (h0 : 0 < vs.length) (hf : fitL vs d = true) : batch (d :: G) vs = ⟨d, true, G, none, false⟩ := by
  unfold batch
  rw [if_neg (by omega)]
  dsimp only
  rw [if_pos hf]

theorem batch_nil {vs : List Verb} (h0 : 0 < vs.length) : batch [] vs = ⟨[], false, [], some vs, false⟩ := by
  unfold batch
  rw [if_neg (by omega)]

theorem firstBad_of {n lines : Int} : ∀ {vs : List Verb}, (∀ v ∈ vs, v.v.valid n lines = 0) → firstBad n lines vs = 0
  | [], _ => rfl
  | v :: vs, h => by
    unfold firstBad
    rw [if_neg (fun e => e (h v List.mem_cons_self))]
    exact firstBad_of fun x hx => h x (List.mem_cons_of_mem _ hx)
end Go.Proofs.YteaknokogenndaaGreat
/- A proposer that is alone on the fabric: its whole run. -/
set_option linter.unusedVariables false
namespace Go.Proofs.YteaknokogenndaaGreat
open Go.Eng

/-! ### What it asks, step by step -/

section
variable {j : Job} {a : Nat} {N : List NodeS} {b : Int}

theorem readAsk_get (j : Job) {k : Nat} (hk : k < j.nodes.toNat) : (readAsk j)[k]? = some (rdVerb k j.at_) := by
  simp [readAsk, hk]

theorem readAsk_len (j : Job) : (readAsk j).length = j.nodes.toNat := by simp [readAsk]

theorem fit_read (hn : j.nodes = N.length) : fitL (readAsk j) (N.map (rep a)) = true := by
  refine fitL_of (by rw [readAsk_len]; simp; omega) fun k v d hv hd => ?_
  have hk : k < j.nodes.toNat := by rw [← readAsk_len]; exact (List.getElem?_eq_some_iff.1 hv).1
  rw [readAsk_get j hk] at hv
  cases hv
  rw [List.getElem?_map] at hd
  cases hn : N[k]? with
  | none => rw [hn] at hd; cases hd
  | some n =>
    rw [hn] at hd
    cases hd
    unfold rep fitP
    cases n.down <;> rfl

theorem fit_swap (nx : Int → Int) (l : List Acc) : fitL (swapAsk j nx l) (l.map fun (x : Acc) => (⟨0, [x.word]⟩ : Done)) = true := by
  refine fitL_of (by simp [swapAsk]) fun k v d hv hd => ?_
  unfold swapAsk at hv
  rw [List.getElem?_map] at hv hd
  cases hn : l[k]? with
  | none => rw [hn] at hd; cases hd
  | some x =>
    rw [hn] at hv hd
    cases hv
    cases hd
    rfl

theorem p1 (hv : j.valid = 0) : pnext j [] = (readAsk j, out0, false) := by
  rw [pnext_ok j [] hv]
  have h0 : 0 < (readAsk j).length := by rw [readAsk_len]; have := (jvalid_zero hv).1; omega
  unfold run1
  rw [batch_nil h0]
  rfl

/-- The proposals that a lone proposer makes. -/
def candsOf (a : Nat) (b : Int) (N : List NodeS) : List Acc := candOf b (upsFrom a 0 N)
def promOf (a : Nat) (b : Int) (N : List NodeS) : List Acc := (candsOf a b N).map fun (x : Acc) => (⟨x.node, promiseW b x.word⟩ : Acc)
def valOf (a : Nat) (b : Int) (N : List NodeS) (v : Int) : Int := valueGo (promOf a b N) v 0
def accOf (a : Nat) (b : Int) (N : List NodeS) (v : Int) : Int := cwOf b b (valOf a b N v)

theorem prom_len : (promOf a b N).length = (candsOf a b N).length := by simp [promOf]

theorem judge_code (n x y g : Int) : (judge n x y g).code = if x < majority n then 9 else if y < majority n then 8 else 0 := by
  unfold judge
  split
  · rfl
  · split <;> rfl

theorem p2 (hv : j.valid = 0) (hn : j.nodes = N.length) (hb : b = ballot j.round j.client) :
    ∃ g, run1 j b 0 [N.map (rep a)] = (if (judge j.nodes (upsFrom a 0 N).length (candsOf a b N).length g).code ≠ 0 then ⟨[], none, false, judge j.nodes (upsFrom a 0 N).length (candsOf a b N).length g⟩ else run2 j b g [] (candsOf a b N)) ∧
      ∀ G, run1 j b 0 (N.map (rep a) :: G) = (if (judge j.nodes (upsFrom a 0 N).length (candsOf a b N).length g).code ≠ 0 then ⟨G, none, false, judge j.nodes (upsFrom a 0 N).length (candsOf a b N).length g⟩ else run2 j b g G (candsOf a b N)) := by
  have h0 : 0 < (readAsk j).length := by rw [readAsk_len]; have := (jvalid_zero hv).1; omega
  obtain ⟨g, hg⟩ := readGo_ups a N 0 [] 0
  have key : ∀ G, run1 j b 0 (N.map (rep a) :: G) = (if (judge j.nodes (upsFrom a 0 N).length (candsOf a b N).length g).code ≠ 0 then ⟨G, none, false, judge j.nodes (upsFrom a 0 N).length (candsOf a b N).length g⟩ else run2 j b g G (candsOf a b N)) := by
    intro G
    unfold run1
    rw [batch_cons h0 (fit_read hn)]
    dsimp only
    rw [hg]
    dsimp only
    rw [List.nil_append, if_neg (by simp)]
    rfl
  exact ⟨g, key [], key⟩

theorem run2_ask {g : Int} {K : List Acc} (hK : 0 < K.length) : run2 j b g [] K = ⟨[], some (swapAsk j (promiseW b) K), false, out0⟩ := by
  unfold run2
  rw [batch_nil (by simpa [swapAsk] using hK)]
  rfl

theorem run2_go {g : Int} {K : List Acc} {G : List (List Done)} (hK : 0 < K.length) (hm : majority j.nodes ≤ K.length) :
    run2 j b g ((K.map fun (x : Acc) => (⟨0, [x.word]⟩ : Done)) :: G) K = run3 j b g G (K.map fun (x : Acc) => (⟨x.node, promiseW b x.word⟩ : Acc)) := by
  unfold run2
  rw [batch_cons (by simpa [swapAsk] using hK) (fit_swap _ K)]
  dsimp only
  rw [swap_all]
  dsimp only
  have hj : (judge j.nodes ((0 + K.length : Nat) : Int) (([] ++ K.map fun (x : Acc) => (⟨x.node, promiseW b x.word⟩ : Acc)).length : Nat) g).code = 0 := by
    rw [judge_code, if_neg (by omega), if_neg (by simp; omega)]
  rw [if_neg (by simp), if_neg (fun e => e hj)]
  rfl

theorem run3_ask {g : Int} {P : List Acc} (hP : 0 < P.length) : run3 j b g [] P = ⟨[], some (swapAsk j (fun _ => cwOf b b (valueGo P j.value 0)) P), false, out0⟩ := by
  unfold run3
  dsimp only
  rw [batch_nil (by simpa [swapAsk] using hP)]
  rfl

theorem run3_go {g : Int} {P : List Acc} (hP : 0 < P.length) (hm : majority j.nodes ≤ P.length) : run3 j b g [P.map fun (x : Acc) => (⟨0, [x.word]⟩ : Done)] P = ⟨[], none, false, ⟨0, valueGo P j.value 0, 0⟩⟩ := by
  unfold run3
  dsimp only
  rw [batch_cons (by simpa [swapAsk] using hP) (fit_swap _ P)]
  dsimp only
  rw [swap_all]
  dsimp only
  have hj : (judge j.nodes ((0 + P.length : Nat) : Int) (([] ++ P.map fun (x : Acc) => (⟨x.node, cwOf b b (valueGo P j.value 0)⟩ : Acc)).length : Nat) g).code = 0 := by
    rw [judge_code, if_neg (by omega), if_neg (by simp; omega)]
  rw [if_neg (by simp), if_neg (fun e => e hj)]

theorem maj_pos (hv : j.valid = 0) : 1 ≤ majority j.nodes := by
  have := (jvalid_zero hv).1
  unfold majority
  rw [if_neg (by omega)]
  omega

theorem p2_out (hv : j.valid = 0) (hn : j.nodes = N.length) (hb : b = ballot j.round j.client) (hc : ¬ ((majority j.nodes ≤ (upsFrom a 0 N).length) ∧ (majority j.nodes ≤ (candsOf a b N).length))) :
    ∃ o, pnext j [N.map (rep a)] = ([], o, true) ∧ o.code = (if ((upsFrom a 0 N).length : Int) < majority j.nodes then 9 else 8) := by
  obtain ⟨g, h1, _⟩ := p2 (a := a) (N := N) hv hn hb
  have hcode : (judge j.nodes (upsFrom a 0 N).length (candsOf a b N).length g).code = (if ((upsFrom a 0 N).length : Int) < majority j.nodes then 9 else 8) := by
    rw [judge_code]
    split
    · rfl
    · rw [if_pos (by omega)]
  refine ⟨judge j.nodes (upsFrom a 0 N).length (candsOf a b N).length g, ?_, hcode⟩
  rw [pnext_ok j _ hv, ← hb, h1, if_pos (by rw [hcode]; split <;> decide)]
  rfl

theorem p2_ask (hv : j.valid = 0) (hn : j.nodes = N.length) (hb : b = ballot j.round j.client) (h1 : majority j.nodes ≤ (upsFrom a 0 N).length) (h2 : majority j.nodes ≤ (candsOf a b N).length) :
    pnext j [N.map (rep a)] = (swapAsk j (promiseW b) (candsOf a b N), out0, false) := by
  obtain ⟨g, hg, _⟩ := p2 (a := a) (N := N) hv hn hb
  have hm := maj_pos hv
  have hcode : (judge j.nodes (upsFrom a 0 N).length (candsOf a b N).length g).code = 0 := by rw [judge_code, if_neg (by omega), if_neg (by omega)]
  rw [pnext_ok j _ hv, ← hb, hg, if_neg (fun e => e hcode), run2_ask (by omega)]

theorem p3_ask (hv : j.valid = 0) (hn : j.nodes = N.length) (hb : b = ballot j.round j.client) (h1 : majority j.nodes ≤ (upsFrom a 0 N).length) (h2 : majority j.nodes ≤ (candsOf a b N).length) :
    pnext j [N.map (rep a), (candsOf a b N).map fun (x : Acc) => (⟨0, [x.word]⟩ : Done)] = (swapAsk j (fun _ => accOf a b N j.value) (promOf a b N), out0, false) := by
  obtain ⟨g, _, hg⟩ := p2 (a := a) (N := N) hv hn hb
  have hm := maj_pos hv
  have hcode : (judge j.nodes (upsFrom a 0 N).length (candsOf a b N).length g).code = 0 := by rw [judge_code, if_neg (by omega), if_neg (by omega)]
  rw [pnext_ok j _ hv, ← hb, hg, if_neg (fun e => e hcode), run2_go (by omega) h2]
  show (match (run3 j b g [] (promOf a b N)).ask with | some vs => (vs, out0, false) | none => _) = _
  rw [run3_ask (by rw [prom_len]; omega)]
  rfl

theorem p4_out (hv : j.valid = 0) (hn : j.nodes = N.length) (hb : b = ballot j.round j.client) (h1 : majority j.nodes ≤ (upsFrom a 0 N).length) (h2 : majority j.nodes ≤ (candsOf a b N).length) :
    pnext j [N.map (rep a), (candsOf a b N).map fun (x : Acc) => (⟨0, [x.word]⟩ : Done), (promOf a b N).map fun (x : Acc) => (⟨0, [x.word]⟩ : Done)] = ([], ⟨0, valOf a b N j.value, 0⟩, true) := by
  obtain ⟨g, _, hg⟩ := p2 (a := a) (N := N) hv hn hb
  have hm := maj_pos hv
  have hcode : (judge j.nodes (upsFrom a 0 N).length (candsOf a b N).length g).code = 0 := by rw [judge_code, if_neg (by omega), if_neg (by omega)]
  rw [pnext_ok j _ hv, ← hb, hg, if_neg (fun e => e hcode), run2_go (by omega) h2]
  have h3 : run3 j b g [(promOf a b N).map fun (x : Acc) => (⟨0, [x.word]⟩ : Done)] (promOf a b N) = ⟨[], none, false, ⟨0, valOf a b N j.value, 0⟩⟩ := run3_go (by rw [prom_len]; omega) (by rw [prom_len]; omega)
  show (match (run3 j b g [(promOf a b N).map fun (x : Acc) => (⟨0, [x.word]⟩ : Done)] (promOf a b N)).ask with | some vs => (vs, out0, false) | none => if (run3 j b g [(promOf a b N).map fun (x : Acc) => (⟨0, [x.word]⟩ : Done)] (promOf a b N)).wrong || decide (0 < (run3 j b g [(promOf a b N).map fun (x : Acc) => (⟨0, [x.word]⟩ : Done)] (promOf a b N)).got.length) then ([], ⟨6, 0, 0⟩, true) else ([], (run3 j b g [(promOf a b N).map fun (x : Acc) => (⟨0, [x.word]⟩ : Done)] (promOf a b N)).out, true)) = _
  rw [h3]
  rfl
end
end Go.Proofs.YteaknokogenndaaGreat
/- A proposer that is alone on the fabric: the theorem. -/
set_option linter.unusedVariables false
namespace Go.Proofs.YteaknokogenndaaGreat
open Go.Eng

theorem Calm.nodeOk {c : Nat} {F : Fab} {C : Comp} (h : Calm c F C) (hl : 98 ≤ F.lines) {i : Nat} {n : NodeS} (hn : F.nodes[i]? = some n) : NodeOk F.lines n :=
  ⟨h.fine.good.ok.words n (List.mem_of_getElem? hn), hl, h.fine.good.ok.lines.2⟩

theorem read_asks {j : Job} {n : Nat} (hn : j.nodes = n) : Asks n (readAsk j) := by
  refine ⟨fun v hv => ?_, fun v hv => ?_, fun k k' v v' hk hk' he => ?_⟩
  · simp only [readAsk, List.mem_map, List.mem_range] at hv
    obtain ⟨i, hi, rfl⟩ := hv
    show 0 ≤ (i : Int) ∧ (i : Int) < n
    omega
  · simp only [readAsk, List.mem_map] at hv
    obtain ⟨i, _, rfl⟩ := hv
    exact single_of rfl
  · have h1 : k < j.nodes.toNat := by rw [← readAsk_len]; exact (List.getElem?_eq_some_iff.1 hk).1
    have h2 : k' < j.nodes.toNat := by rw [← readAsk_len]; exact (List.getElem?_eq_some_iff.1 hk').1
    rw [readAsk_get j h1] at hk
    rw [readAsk_get j h2] at hk'
    cases hk
    cases hk'
    have : (k : Int) = k' := he
    omega

theorem swap_asks {j : Job} {n : Nat} {nx : Int → Int} {l : List Acc} (hs : l.Pairwise fun x y => x.node < y.node) (hr : ∀ x ∈ l, 0 ≤ x.node ∧ x.node < n) : Asks n (swapAsk j nx l) := by
  refine ⟨fun v hv => ?_, fun v hv => ?_, fun k k' v v' hk hk' he => ?_⟩
  · simp only [swapAsk, List.mem_map] at hv
    obtain ⟨x, hx, rfl⟩ := hv
    exact hr x hx
  · simp only [swapAsk, List.mem_map] at hv
    obtain ⟨i, _, rfl⟩ := hv
    exact single_of rfl
  · unfold swapAsk at hk hk'
    rw [List.getElem?_map] at hk hk'
    cases h1 : l[k]? with
    | none => rw [h1] at hk; cases hk
    | some x =>
      cases h2 : l[k']? with
      | none => rw [h2] at hk'; cases hk'
      | some y =>
        rw [h1] at hk
        rw [h2] at hk'
        cases hk
        cases hk'
        exact sorted_inj hs k k' x y h1 h2 he

/-- The talk when a batch has come back. -/
def Talk.next (t : Talk) (ds : List Done) : Talk := { t with code := 0, value := 0, got := t.got ++ [ds] }

theorem read_phase {cs : List Int} {c : Nat} {F : Fab} {C : Comp} (h : Calm c F C) (hl : 98 ≤ F.lines) {t : Talk} (ht : t.client = c) (hov : t.over = false) (hgot : t.got = []) {j : Job} (hjob : t.job = j) {a : Nat} (hv : j.valid = 0) (hn : j.nodes = F.nodes.length) (ha : j.at_ = a) (ha2 : 8 ≤ a ∧ a ≤ 23) :
    ∃ (F2 F3 : Fab) (C3 : Comp), (∀ G t0, turn G t0 = tailP F t → ∀ f n, driveGo cs [] [] (f + F.nodes.length) n G [t0] = driveGo cs [] [] f (n + F.nodes.length) F2 [{ t with code := 0, value := 0 }]) ∧
      turn F2 { t with code := 0, value := 0 } = tailP F3 (t.next (F.nodes.map (rep a))) ∧ Calm c F3 C3 ∧ SameF c F F3 ∧ C3.inc = C.inc ∧ C3.trips = IntKind.i64.wrap (C.trips + 1) ∧ F3.nodes = F.nodes := by
  have hj := jvalid_zero hv
  have hlen : (readAsk j).length = F.nodes.length := by rw [readAsk_len]; omega
  have hl2 := h.fine.good.ok.lines.2
  obtain ⟨F2, F3, C3, ds, h1, h2, h3, h4, h5, h6, h7, h8, h9⟩ := phase (cs := cs) h ht hov (by rw [hgot]; simp) (vs := readAsk j) (o := out0) (by rw [hjob, hgot]; exact p1 hv) (read_asks hn) (by omega) (by omega) (by
    refine firstBad_of fun v hvm => ?_
    simp only [readAsk, List.mem_map, List.mem_range] at hvm
    obtain ⟨i, hi, rfl⟩ := hvm
    rw [ha]
    exact rd_valid (by omega) (by omega) ha2 (by omega))
  rw [hlen] at h1
  have hpt : ∀ k : Nat, k < F.nodes.length → ∃ n0, F.nodes[k]? = some n0 ∧ ds[k]? = some (rep a n0) ∧ F3.nodes[k]? = some n0 := by
    intro k hk
    obtain ⟨n0, g1, g2, g3⟩ := h8 k _ (readAsk_get j (by omega))
    have e : (rdVerb (k : Int) j.at_).node.toNat = k := by show (k : Int).toNat = k; omega
    rw [e] at g1 g3
    rw [ha, serve_rd (h.nodeOk hl g1) (by omega) ha2] at g2 g3
    exact ⟨n0, g1, g2, g3⟩
  have hds : ds = F.nodes.map (rep a) := by
    apply List.ext_getElem?
    intro k
    rw [List.getElem?_map]
    by_cases hk : k < F.nodes.length
    · obtain ⟨n0, g1, g2, _⟩ := hpt k hk
      rw [g1, g2]
      rfl
    · rw [List.getElem?_eq_none (by omega), List.getElem?_eq_none (by omega)]
      rfl
  have hnodes : F3.nodes = F.nodes := by
    apply List.ext_getElem?
    intro k
    by_cases hk : k < F.nodes.length
    · obtain ⟨n0, g1, _, g3⟩ := hpt k hk
      rw [g1, g3]
    · have := h5.nlen
      rw [List.getElem?_eq_none (by omega), List.getElem?_eq_none (by omega)]
  rw [hds] at h2
  exact ⟨F2, F3, C3, h1, h2, h3, h5, h6, h7, hnodes⟩

theorem cas_phase {cs : List Int} {c : Nat} {F : Fab} {C : Comp} (h : Calm c F C) (hl : 98 ≤ F.lines) {t : Talk} (ht : t.client = c) (hov : t.over = false) (hgot : t.got.length ≤ 200) {j : Job} {a : Nat} (ha : j.at_ = a) (ha2 : 8 ≤ a ∧ a ≤ 23) {nx : Int → Int} {l : List Acc}
    (hp : pnext t.job t.got = (swapAsk j nx l, out0, false)) (hs : l.Pairwise fun x y => x.node < y.node) (h0 : 0 < l.length) (hinc : 0 ≤ C.inc)
    (hx : ∀ x ∈ l, 0 ≤ x.node ∧ ∃ nd, F.nodes[x.node.toNat]? = some nd ∧ nd.down = false ∧ nd.get a = x.word ∧ nd.get (24 + c) ≤ C.inc) :
    ∃ (F2 F3 : Fab) (C3 : Comp), (∀ G t0, turn G t0 = tailP F t → ∀ f n, driveGo cs [] [] (f + l.length) n G [t0] = driveGo cs [] [] f (n + l.length) F2 [{ t with code := 0, value := 0 }]) ∧
      turn F2 { t with code := 0, value := 0 } = tailP F3 (t.next (l.map fun (x : Acc) => (⟨0, [x.word]⟩ : Done))) ∧ Calm c F3 C3 ∧ SameF c F F3 ∧ C3.inc = C.inc ∧ C3.trips = IntKind.i64.wrap (C.trips + 1) ∧
      (∀ x ∈ l, ∃ nd, F.nodes[x.node.toNat]? = some nd ∧ F3.nodes[x.node.toNat]? = some { nd with words := nd.words.set a (nx x.word) }) ∧ (∀ i : Nat, (∀ x ∈ l, x.node ≠ (i : Int)) → F3.nodes[i]? = F.nodes[i]?) ∧ l.length ≤ 5 := by
  have hlen : (swapAsk j nx l).length = l.length := by simp [swapAsk]
  have hl2 := h.fine.good.ok.lines.2
  have hN := h.fine.good.ok.nodes
  have hr : ∀ x ∈ l, 0 ≤ x.node ∧ x.node < F.nodes.length := fun x hm => by
    obtain ⟨g0, nd, g1, _⟩ := hx x hm
    have := (List.getElem?_eq_some_iff.1 g1).1
    omega
  have hl5 : l.length ≤ 5 := by
    have key : ∀ {l : List Acc} {m : Nat}, (l.Pairwise fun x y => x.node < y.node) → (∀ x ∈ l, 0 ≤ x.node ∧ x.node < m) → l.length ≤ m := by
      intro l
      induction l with
      | nil => intro m _ _; simp
      | cons y ys ih =>
        intro m hs hm
        obtain ⟨q1, q2⟩ := List.pairwise_cons.1 hs
        have hy := hm y List.mem_cons_self
        have : ys.length ≤ m - 1 := by
          have hshift : ∀ {zs : List Acc} {lo hi : Int}, (zs.Pairwise fun x y => x.node < y.node) → (∀ x ∈ zs, lo < x.node ∧ x.node < hi) → (zs.length : Int) ≤ max 0 (hi - lo - 1) := by
            intro zs
            induction zs with
            | nil => intro lo hi _ _; simp; omega
            | cons z zs ih2 =>
              intro lo hi hs2 hm2
              obtain ⟨r1, r2⟩ := List.pairwise_cons.1 hs2
              have hz := hm2 z List.mem_cons_self
              have := ih2 (lo := z.node) (hi := hi) r2 fun x hx => ⟨r1 x hx, (hm2 x (List.mem_cons_of_mem _ hx)).2⟩
              simp
              omega
          have := hshift (lo := y.node) (hi := m) q2 fun x hx => ⟨q1 x hx, (hm x (List.mem_cons_of_mem _ hx)).2⟩
          omega
        simp
        omega
    have := key hs hr
    omega
  obtain ⟨F2, F3, C3, ds, h1, h2, h3, h4, h5, h6, h7, h8, h9⟩ := phase (cs := cs) h ht hov hgot (vs := swapAsk j nx l) (o := out0) hp (swap_asks hs hr) (by omega) (by omega) (by
    refine firstBad_of fun v hvm => ?_
    simp only [swapAsk, List.mem_map] at hvm
    obtain ⟨x, hxm, rfl⟩ := hvm
    rw [ha]
    exact cas_valid (by omega) (hr x hxm) ha2 (by omega))
  rw [hlen] at h1
  have hpt : ∀ (k : Nat) (x : Acc), l[k]? = some x → ∃ nd, F.nodes[x.node.toNat]? = some nd ∧ ds[k]? = some ⟨0, [x.word]⟩ ∧ F3.nodes[x.node.toNat]? = some { nd with words := nd.words.set a (nx x.word) } := by
    intro k x hk
    have hxm := List.mem_of_getElem? hk
    obtain ⟨g0, nd, g1, g2, g3, g4⟩ := hx x hxm
    have hvk : (swapAsk j nx l)[k]? = some (casVerb x.node j.at_ x.word (nx x.word)) := by unfold swapAsk; rw [List.getElem?_map, hk]; rfl
    obtain ⟨n0, e1, e2, e3⟩ := h8 k _ hvk
    have e : (casVerb x.node j.at_ x.word (nx x.word)).node = x.node := rfl
    rw [e, g1] at e1
    cases e1
    rw [e] at e3
    have hxi := hr x hxm
    obtain ⟨i, hi⟩ := Int.eq_ofNat_of_zero_le g0
    have hsv : serve C.inc c (casVerb x.node j.at_ x.word (nx x.word)) nd = (⟨0, [x.word]⟩, { nd with words := nd.words.set a (nx x.word) }) := by
      rw [ha, hi]
      exact serve_cas (h.nodeOk hl g1) (by omega) ha2 hinc g4 g2 g3
    rw [hsv] at e2 e3
    exact ⟨nd, g1, e2, e3⟩
  have hds : ds = l.map fun (x : Acc) => (⟨0, [x.word]⟩ : Done) := by
    apply List.ext_getElem?
    intro k
    rw [List.getElem?_map]
    cases hk : l[k]? with
    | none =>
      have := List.getElem?_eq_none_iff.1 hk
      rw [List.getElem?_eq_none (by omega)]
      rfl
    | some x =>
      obtain ⟨_, _, g2, _⟩ := hpt k x hk
      rw [g2]
      rfl
  rw [hds] at h2
  refine ⟨F2, F3, C3, h1, h2, h3, h5, h6, h7, fun x hxm => ?_, fun i hi => ?_, hl5⟩
  · obtain ⟨k, hk⟩ := List.mem_iff_getElem?.1 hxm
    obtain ⟨nd, g1, _, g3⟩ := hpt k x hk
    exact ⟨nd, g1, g3⟩
  · refine h9 i fun v hvm => ?_
    simp only [swapAsk, List.mem_map] at hvm
    obtain ⟨x, hxm, rfl⟩ := hvm
    exact hi x hxm
end Go.Proofs.YteaknokogenndaaGreat
/- A proposer that is alone on the fabric: how it ends. -/
set_option linter.unusedVariables false
namespace Go.Proofs.YteaknokogenndaaGreat
open Go.Eng

/-- What a lone proposer makes of a node. -/
def upd (a : Nat) (b w : Int) (n : NodeS) : NodeS := if n.down = false ∧ cwP (n.get a) < b then { n with words := n.words.set a w } else n

theorem cands_mem {a : Nat} {b : Int} {N : List NodeS} {x : Acc} (h : x ∈ candsOf a b N) : ∃ (k : Nat) (n : NodeS), N[k]? = some n ∧ n.down = false ∧ cwP (n.get a) < b ∧ x = ⟨(k : Int), n.get a⟩ := by
  obtain ⟨h1, h2⟩ := List.mem_filter.1 h
  obtain ⟨k, n, g1, g2, rfl⟩ := ups_mem h1
  rw [Nat.zero_add]
  exact ⟨k, n, g1, g2, by simpa using h2, rfl⟩

theorem cands_of {a : Nat} {b : Int} {N : List NodeS} {k : Nat} {n : NodeS} (hk : N[k]? = some n) (hd : n.down = false) (hb : cwP (n.get a) < b) : (⟨(k : Int), n.get a⟩ : Acc) ∈ candsOf a b N := by
  have := ups_of (a := a) (i := 0) hk hd
  rw [Nat.zero_add] at this
  exact List.mem_filter.2 ⟨this, by simpa using hb⟩

theorem cands_sorted (a : Nat) (b : Int) (N : List NodeS) : (candsOf a b N).Pairwise fun x y => x.node < y.node := (ups_sorted a N 0).filter _

theorem prom_sorted (a : Nat) (b : Int) (N : List NodeS) : (promOf a b N).Pairwise fun x y => x.node < y.node := by
  unfold promOf
  rw [List.pairwise_map]
  exact cands_sorted a b N

theorem nget_self {n : NodeS} {a : Nat} {w : Int} (h : a < n.words.length) : NodeS.get { n with words := n.words.set a w } a = w := by
  unfold NodeS.get
  simp [h]

theorem nget_ne {n : NodeS} {a i : Nat} {w : Int} (h : a ≠ i) : NodeS.get { n with words := n.words.set a w } i = n.get i := by
  unfold NodeS.get
  simp [List.getElem?_set_ne h]

theorem start_turn {c : Nat} {F : Fab} {C : Comp} (h : Calm c F C) {t : Talk} (ht : t.client = c) (hov : t.over = false) : turn F t = tailP F t := by
  have hC := h.fine.good.ok.client c C h.cl
  have hw : C.waiting = 0 := by have := hC.batch.1; rw [h.batch] at this; simpa using this
  have h1 : F.alive t.client = true := by unfold Fab.alive; rw [ht, cl_nat h.cl]; exact h.alive
  have h2 : F.waiting t.client = 0 := by unfold Fab.waiting; rw [ht, cl_nat h.cl]; exact hw
  have h3 : F.take t.client = (none, F) := by
    unfold Fab.take
    rw [ht, cl_nat h.cl]
    dsimp only
    rw [if_neg (by rw [h.alive]; simp), h.batch]
  unfold turn
  rw [if_neg (by rw [hov, h1, h2]; simp), h3]
  rfl

/-- How a lone proposer ends. -/
structure Ends (c : Nat) (F : Fab) (C : Comp) (t : Talk) (j : Job) (a : Nat) (b : Int) (F' : Fab) (C' : Comp) (t' : Talk) : Prop where
  run : alone F t = (F', [t'])
  calm : Calm c F' C'
  same : SameF c F F'
  inc : C'.inc = C.inc
  over : t'.over = true
  bad : t'.bad = t.bad
  out : (((upsFrom a 0 F.nodes).length : Int) < majority j.nodes ∧ t'.code = 9 ∧ F'.nodes = F.nodes ∧ C'.trips = IntKind.i64.wrap (C.trips + 1)) ∨
    (majority j.nodes ≤ (upsFrom a 0 F.nodes).length ∧ ((candsOf a b F.nodes).length : Int) < majority j.nodes ∧ t'.code = 8 ∧ F'.nodes = F.nodes) ∨
    (majority j.nodes ≤ (upsFrom a 0 F.nodes).length ∧ majority j.nodes ≤ (candsOf a b F.nodes).length ∧ t'.code = 0 ∧ t'.value = valOf a b F.nodes j.value ∧ F'.nodes = F.nodes.map (upd a b (accOf a b F.nodes j.value)) ∧ C'.trips = IntKind.i64.wrap (IntKind.i64.wrap (IntKind.i64.wrap (C.trips + 1) + 1) + 1))

set_option maxHeartbeats 1000000 in
theorem lone {c : Nat} {F : Fab} {C : Comp} (h : Calm c F C) (hl : 98 ≤ F.lines) {t : Talk} (ht : t.client = c) (hov : t.over = false) (hgot : t.got = []) {j : Job} (hjob : t.job = j) {a : Nat} (hv : j.valid = 0) (hn : j.nodes = F.nodes.length) (ha : j.at_ = a) (ha2 : 8 ≤ a ∧ a ≤ 23) {b : Int} (hb : b = ballot j.round j.client)
    (hdoor : ∀ n ∈ F.nodes, n.get (24 + c) ≤ C.inc) : ∃ F' C' t', Ends c F C t j a b F' C' t' := by
  have hj := jvalid_zero hv
  have hm := maj_pos hv
  have hinc := (h.fine.good.ok.client c C h.cl).inc.1
  have hN5 := h.fine.good.ok.nodes.2
  obtain ⟨F2, F3, C3, d1, d2, hc3, s3, i3, r3, n3⟩ := read_phase (cs := [t.client]) h hl ht hov hgot hjob hv hn ha ha2
  have hst := start_turn h ht hov
  have halone : ∀ F' t', driveGo [t.client] [] [] 20000 0 F [t] = (F', [t']) → turns F' [t'] = (F', [t']) → alone F t = (F', [t']) := by
    intro F' t' h1 h2
    unfold alone drive
    have e : ([t].map Talk.client) = [t.client] := rfl
    rw [e, h1]
    exact h2
  have hgn : (t.next (F.nodes.map (rep a))).got = [F.nodes.map (rep a)] := by show t.got ++ _ = _; rw [hgot]; rfl
  by_cases hA : majority j.nodes ≤ (upsFrom a 0 F.nodes).length ∧ majority j.nodes ≤ (candsOf a b F.nodes).length
  · obtain ⟨hA1, hA2⟩ := hA
    have hl3 : 98 ≤ F3.lines := by rw [s3.lines]; exact hl
    -- the promises
    have hK : ∀ x ∈ candsOf a b F.nodes, 0 ≤ x.node ∧ ∃ nd, F3.nodes[x.node.toNat]? = some nd ∧ nd.down = false ∧ nd.get a = x.word ∧ nd.get (24 + c) ≤ C3.inc := by
      intro x hx
      obtain ⟨k, nd, g1, g2, g3, rfl⟩ := cands_mem hx
      refine ⟨by show 0 ≤ (k : Int); omega, nd, ?_, g2, rfl, ?_⟩
      · rw [n3]; show F.nodes[(k : Int).toNat]? = some nd; rw [Int.toNat_natCast]; exact g1
      · rw [i3]; exact hdoor nd (List.mem_of_getElem? g1)
    obtain ⟨F4, F5, C5, e1, e2, hc5, s5, i5, r5, m5, o5, l5⟩ := cas_phase (cs := [t.client]) hc3 hl3 (t := t.next (F.nodes.map (rep a))) ht hov (by rw [hgn]; simp) ha ha2 (nx := promiseW b) (l := candsOf a b F.nodes) (by rw [hgn]; show pnext t.job _ = _; rw [hjob]; exact p2_ask hv hn hb hA1 hA2) (cands_sorted a b F.nodes) (by omega) (by omega) hK
    have hgn2 : ((t.next (F.nodes.map (rep a))).next ((candsOf a b F.nodes).map fun (x : Acc) => (⟨0, [x.word]⟩ : Done))).got = [F.nodes.map (rep a), (candsOf a b F.nodes).map fun (x : Acc) => (⟨0, [x.word]⟩ : Done)] := by
      show (t.next (F.nodes.map (rep a))).got ++ _ = _
      rw [hgn]
      rfl
    have hl5 : 98 ≤ F5.lines := by rw [s5.lines]; exact hl3
    -- the acceptances
    have hP : ∀ x ∈ promOf a b F.nodes, 0 ≤ x.node ∧ ∃ nd, F5.nodes[x.node.toNat]? = some nd ∧ nd.down = false ∧ nd.get a = x.word ∧ nd.get (24 + c) ≤ C5.inc := by
      intro y hy
      obtain ⟨x, hx, rfl⟩ := List.mem_map.1 hy
      obtain ⟨k, nd, g1, g2, g3, he⟩ := cands_mem hx
      obtain ⟨nd', q1, q2⟩ := m5 x hx
      obtain ⟨_, nd2, q3, q4, q5, q6⟩ := hK x hx
      rw [q3] at q1
      cases q1
      have hok := hc3.nodeOk hl3 q3
      have hlt : a < nd'.words.length := by have := hok.len; have := hok.l98; omega
      refine ⟨by rw [he]; show 0 ≤ (k : Int); omega, _, q2, q4, nget_self hlt, ?_⟩
      rw [nget_ne (by omega), i5]
      exact q6
    obtain ⟨F6, F7, C7, f1, f2, hc7, s7, i7, r7, m7, o7, l7⟩ := cas_phase (cs := [t.client]) hc5 hl5 (t := (t.next (F.nodes.map (rep a))).next ((candsOf a b F.nodes).map fun (x : Acc) => (⟨0, [x.word]⟩ : Done))) ht hov (by rw [hgn2]; simp) ha ha2 (nx := fun _ => accOf a b F.nodes j.value) (l := promOf a b F.nodes) (by rw [hgn2]; show pnext t.job _ = _; rw [hjob]; exact p3_ask hv hn hb hA1 hA2) (prom_sorted a b F.nodes) (by rw [prom_len]; omega) (by omega) hP
    generalize ht3 : ((t.next (F.nodes.map (rep a))).next ((candsOf a b F.nodes).map fun (x : Acc) => (⟨0, [x.word]⟩ : Done))).next ((promOf a b F.nodes).map fun (x : Acc) => (⟨0, [x.word]⟩ : Done)) = t3 at f2
    have hgn3 : t3.got = [F.nodes.map (rep a), (candsOf a b F.nodes).map fun (x : Acc) => (⟨0, [x.word]⟩ : Done), (promOf a b F.nodes).map fun (x : Acc) => (⟨0, [x.word]⟩ : Done)] := by
      rw [← ht3]
      show ((t.next (F.nodes.map (rep a))).next ((candsOf a b F.nodes).map fun (x : Acc) => (⟨0, [x.word]⟩ : Done))).got ++ _ = _
      rw [hgn2]
      rfl
    have hpn : pnext t3.job t3.got = ([], ⟨0, valOf a b F.nodes j.value, 0⟩, true) := by
      have : t3.job = j := by rw [← ht3]; exact hjob
      rw [this, hgn3]
      exact p4_out hv hn hb hA1 hA2
    have htl : tailP F7 t3 = (F7, t3.told) := by
      unfold tailP
      rw [if_neg (by rw [hgn3]; simp), hpn]
      rfl
    rw [htl] at f2
    have hto : t3.told.over = true := by unfold Talk.told; rw [hpn]
    have hrun := over_done (cs := [t.client]) f2 hto hc7.quiet (19999 - F.nodes.length - (candsOf a b F.nodes).length - (promOf a b F.nodes).length) (0 + F.nodes.length + (candsOf a b F.nodes).length + (promOf a b F.nodes).length)
    have hfuel : 20000 = 19999 - F.nodes.length - (candsOf a b F.nodes).length - (promOf a b F.nodes).length + 1 + (promOf a b F.nodes).length + (candsOf a b F.nodes).length + F.nodes.length := by omega
    refine ⟨F7, C7, t3.told, ⟨halone _ _ ?_ hrun.2, hc7, (s3.trans s5).trans s7, by rw [i7, i5, i3], hto, by unfold Talk.told; rw [← ht3]; rfl, .inr (.inr ⟨hA1, hA2, ?_, ?_, ?_, by rw [r7, r5, r3]⟩)⟩⟩
    · rw [hfuel, d1 F t hst, e1 F2 _ d2, f1 F4 _ e2]
      exact hrun.1
    · unfold Talk.told; rw [hpn]
    · unfold Talk.told; rw [hpn]
    · apply List.ext_getElem?
      intro k
      rw [List.getElem?_map]
      cases hk : F.nodes[k]? with
      | none =>
        have h1 := List.getElem?_eq_none_iff.1 hk
        have h2 := ((s3.trans s5).trans s7).nlen
        rw [List.getElem?_eq_none (by omega)]
        rfl
      | some nd =>
        show F7.nodes[k]? = some (upd a b _ nd)
        unfold upd
        by_cases hcd : nd.down = false ∧ cwP (nd.get a) < b
        · rw [if_pos hcd]
          have hx := cands_of hk hcd.1 hcd.2
          obtain ⟨nd1, q1, q2⟩ := m5 _ hx
          have hxp : (⟨(k : Int), promiseW b (nd.get a)⟩ : Acc) ∈ promOf a b F.nodes := List.mem_map.2 ⟨_, hx, rfl⟩
          obtain ⟨nd2, q3, q4⟩ := m7 _ hxp
          have ek : (k : Int).toNat = k := Int.toNat_natCast k
          simp only [ek] at q1 q2 q3 q4
          rw [n3, hk] at q1
          cases q1
          rw [q2] at q3
          cases q3
          rw [q4]
          simp [List.set_set]
        · rw [if_neg hcd]
          have hno : ∀ x ∈ candsOf a b F.nodes, x.node ≠ (k : Int) := by
            intro x hx e
            obtain ⟨k', nd', g1, g2, g3, rfl⟩ := cands_mem hx
            have : (k' : Int) = k := e
            have : k' = k := by omega
            subst this
            rw [hk] at g1
            cases g1
            exact hcd ⟨g2, g3⟩
          have hno2 : ∀ x ∈ promOf a b F.nodes, x.node ≠ (k : Int) := by
            intro y hy
            obtain ⟨x, hx, rfl⟩ := List.mem_map.1 hy
            exact hno x hx
          rw [o7 k hno2, o5 k hno, n3, hk]
  · obtain ⟨o, ho, hcode⟩ := p2_out (a := a) (N := F.nodes) hv hn hb hA
    generalize ht1 : t.next (F.nodes.map (rep a)) = t1 at d2
    have hgn1 : t1.got = [F.nodes.map (rep a)] := by rw [← ht1]; exact hgn
    have hpn : pnext t1.job t1.got = ([], o, true) := by
      have : t1.job = j := by rw [← ht1]; exact hjob
      rw [this, hgn1]
      exact ho
    have htl : tailP F3 t1 = (F3, t1.told) := by
      unfold tailP
      rw [if_neg (by rw [hgn1]; simp), hpn]
      rfl
    rw [htl] at d2
    have hto : t1.told.over = true := by unfold Talk.told; rw [hpn]
    have hrun := over_done (cs := [t.client]) d2 hto hc3.quiet (19999 - F.nodes.length) (0 + F.nodes.length)
    have hfuel : 20000 = 19999 - F.nodes.length + 1 + F.nodes.length := by omega
    have htc : t1.told.code = o.code := by unfold Talk.told; rw [hpn]
    refine ⟨F3, C3, t1.told, ⟨halone _ _ ?_ hrun.2, hc3, s3, i3, hto, by unfold Talk.told; rw [← ht1]; rfl, ?_⟩⟩
    · rw [hfuel, d1 F t hst]
      exact hrun.1
    · by_cases hU : ((upsFrom a 0 F.nodes).length : Int) < majority j.nodes
      · rw [if_pos hU] at hcode
        exact .inl ⟨hU, by rw [htc, hcode], n3, r3⟩
      · rw [if_neg hU] at hcode
        exact .inr (.inl ⟨by omega, by omega, by rw [htc, hcode], n3⟩)
end Go.Proofs.YteaknokogenndaaGreat
