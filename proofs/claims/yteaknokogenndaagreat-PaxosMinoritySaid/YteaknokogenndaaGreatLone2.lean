/- A batch of a compute node that is alone on the fabric, from its posting to its last completion. -/
import Derived.Test.YteaknokogenndaaGreatLone
set_option linter.unusedVariables false
namespace Go.Proofs.YteaknokogenndaaGreat
open Go.Eng

/-! ### Posting -/

/-- Lanes when the first k verbs of a batch have been posted. -/
structure LI (n : Nat) (vs : List Verb) (k : Nat) (ls : List Lane) : Prop where
  len : ls.length = n
  lane : ∀ (j : Nat) (l : Lane), ls[j]? = some l → (l.pair.verbs = [] ∧ l.places = []) ∨ ∃ (q : Nat) (v : Verb), q < k ∧ vs[q]? = some v ∧ v.node = (j : Int) ∧ l.pair.verbs = [v] ∧ l.places = [q]
  all : ∀ (q : Nat) (v : Verb), q < k → vs[q]? = some v → ∃ l, ls[v.node.toNat]? = some l ∧ l.pair.verbs = [v] ∧ l.places = [q]

theorem LI.post {n : Nat} {vs : List Verb} {k : Nat} {C : Comp} (h : LI n vs k C.lanes) (hA : Asks n vs) {v : Verb} (hk : vs[k]? = some v) : LI n vs (k + 1) (C.postOne k v).lanes := by
  have hvm := List.mem_of_getElem? hk
  have hvn := hA.node v hvm
  have hlt : v.node.toNat < C.lanes.length := by rw [h.len]; omega
  have hg : C.lanes[v.node.toNat]? = some C.lanes[v.node.toNat] := List.getElem?_eq_getElem hlt
  rw [postOne_lanes' hg]
  generalize C.lanes[v.node.toNat] = l0 at hg
  have hempty : l0.pair.verbs = [] ∧ l0.places = [] := by
    rcases h.lane _ _ hg with h0 | ⟨q, v', h1, h2, h3, _⟩
    · exact h0
    · exfalso
      have := hA.diff q k v' v h2 hk (by omega)
      omega
  refine ⟨by simpa using h.len, fun j l hl => ?_, fun q v' hq hv' => ?_⟩
  · rcases get_set hlt hl with ⟨e, rfl⟩ | ⟨e, hl⟩
    · exact .inr ⟨k, v, by omega, hk, by omega, by simp [laneAdd, hempty.1], by simp [laneAdd, hempty.2]⟩
    · rcases h.lane j l hl with h0 | ⟨q, v', h1, h2, h3, h4⟩
      · exact .inl h0
      · exact .inr ⟨q, v', by omega, h2, h3, h4⟩
  · by_cases hqk : q = k
    · subst hqk
      rw [hk] at hv'
      cases hv'
      exact ⟨laneAdd l0 q v, List.getElem?_set_self hlt, by simp [laneAdd, hempty.1], by simp [laneAdd, hempty.2]⟩
    · obtain ⟨l, h1, h2, h3⟩ := h.all q v' (by omega) hv'
      have hne : v.node.toNat ≠ v'.node.toNat := by
        intro e
        have h4 := hA.node v' (List.mem_of_getElem? hv')
        exact hqk (hA.diff q k v' v hv' hk (by omega))
      exact ⟨l, by rw [List.getElem?_set_ne hne]; exact h1, h2, h3⟩

theorem LI.posts {n : Nat} {vs : List Verb} (hA : Asks n vs) : ∀ (us : List Verb) (k : Nat) (C : Comp), (∀ i, us[i]? = vs[k + i]?) → k + us.length = vs.length → LI n vs k C.lanes → LI n vs vs.length (C.postFrom k us).lanes
  | [], k, C, _, hl, h => by
    have : k = vs.length := by simpa using hl
    subst this
    exact h
  | u :: us, k, C, hu, hl, h => by
    rw [Comp.postFrom]
    have hk : vs[k]? = some u := by have := hu 0; simpa using this.symm
    refine LI.posts hA us (k + 1) _ (fun i => ?_) (by simp at hl; omega) (h.post hA hk)
    have := hu (i + 1)
    rw [show k + 1 + i = k + (i + 1) by omega]
    simpa using this

/-- A compute node that may post, on a fabric that is otherwise quiet. -/
structure Calm (c : Nat) (F : Fab) (C : Comp) : Prop where
  fine : Fine F
  quiet : Quiet F
  cl : F.clients[c]? = some C
  alive : C.alive = true
  batch : C.batch = none

theorem cl_nat {F : Fab} {c : Nat} {C : Comp} (h : F.clients[c]? = some C) : F.cl (c : Int) = some C := by
  unfold Fab.cl
  rw [if_neg (by omega), Int.toNat_natCast]
  exact h

theorem Calm.post {c : Nat} {F : Fab} {C : Comp} (h : Calm c F C) {vs : List Verb} (hA : Asks F.nodes.length vs) (h0 : 0 < vs.length) (h1 : vs.length ≤ 1024) (hb : firstBad F.nodes.length F.lines vs = 0) :
    F.post c vs = (0, F.setC c (C.posted' vs)) ∧ Bat F.nodes vs c (F.setC c (C.posted' vs)) (C.posted' vs) (List.replicate vs.length ⟨0, []⟩) := by
  have hclt := (List.getElem?_eq_some_iff.1 h.cl).1
  have hC := h.fine.good.ok.client c C h.cl
  refine ⟨?_, ?_⟩
  · unfold Fab.post
    rw [cl_nat h.cl]
    dsimp only
    rw [if_neg (by rw [h.alive]; simp), if_neg (by rw [h.batch]; simp), if_neg (by omega), if_neg (by omega), if_neg (by omega)]
  · have hln : C.lanes.length = F.nodes.length := by rw [hC.lanes, h.alive]; rfl
    have hidle := h.quiet.idle C (List.mem_of_getElem? h.cl)
    have hLI : LI F.nodes.length vs 0 C.lanes := by
      refine ⟨hln, fun j l hl => .inl ?_, fun q v hq => by omega⟩
      have he := hidle l (List.mem_of_getElem? hl)
      have hp := (hC.lane j l hl).places
      rw [he] at hp
      exact ⟨he, List.eq_nil_of_length_eq_zero hp⟩
    have hfin := LI.posts hA vs 0 C (fun i => by rw [Nat.zero_add]) (by omega) hLI
    have hset : (F.setC c (C.posted' vs)).clients = F.clients.set c (C.posted' vs) := by unfold Fab.setC; simp
    refine ⟨?_, rfl, by simp, h.quiet.orph, fun i D hi hD => ?_, fun j l hl => ?_, fun k v hk => ?_, fun j _ => rfl⟩
    · rw [hset]; exact List.getElem?_set_self hclt
    · rw [hset, List.getElem?_set_ne (fun e => hi e.symm)] at hD
      exact h.quiet.idle D (List.mem_of_getElem? hD)
    · rcases hfin.lane j l hl with h2 | ⟨q, v, _, h3, h4, h5, h6⟩
      · exact .inl h2.1
      · exact .inr ⟨q, v, h3, h4, h5, h6⟩
    · have hv := hA.node v (List.mem_of_getElem? hk)
      have hn : F.nodes[v.node.toNat]? = some F.nodes[v.node.toNat] := List.getElem?_eq_getElem (by omega)
      obtain ⟨l, g1, g2, g3⟩ := hfin.all k v (List.getElem?_eq_some_iff.1 hk).1 hk
      exact ⟨_, hn, .inl ⟨l, g1, g2, g3, hn⟩⟩

/-! ### Driving one conversation -/

theorem turns_one {F : Fab} {t : Talk} : turns F [t] = ((turn F t).1, [(turn F t).2]) := rfl

theorem drive_turn {cs : List Int} {F F1 : Fab} {t t1 : Talk} (h1 : turn F t = (F1, t1)) (h2 : turn F1 t1 = (F1, t1)) (f n : Nat) : driveGo cs [] [] (f + 1) n F [t] = driveGo cs [] [] (f + 1) n F1 [t1] := by
  rw [driveGo, driveGo]
  rw [show happens F cs n [] = F from rfl, show happens F1 cs n [] = F1 from rfl, turns_one, turns_one, h1, h2]

theorem turn_wait {F : Fab} {t : Talk} {c : Nat} {C : Comp} (hc : F.clients[c]? = some C) (ht : t.client = c) (hw : 0 < C.waiting) : turn F t = (F, t) := by
  have h3 : 0 < F.waiting t.client := by
    unfold Fab.waiting
    rw [ht, cl_nat hc]
    exact hw
  unfold turn
  rw [if_pos (.inr (.inr h3))]

theorem drain {cs : List Int} {N : List NodeS} {vs : List Verb} {c : Nat} {t : Talk} (ht : t.client = c) : ∀ (W : Nat) (F : Fab) (C : Comp) (ds : List Done), Bat N vs c F C ds → Asks F.nodes.length vs → Fine F → C.waiting = W →
    ∃ (F' : Fab) (C' : Comp) (ds' : List Done), (∀ f n, driveGo cs [] [] (f + W) n F [t] = driveGo cs [] [] f (n + W) F' [t]) ∧ Bat N vs c F' C' ds' ∧ Fine F' ∧ C'.waiting = 0 ∧ SameC C C' ∧ SameF c F F'
  | 0, F, C, ds, h, hA, hF, hw => ⟨F, C, ds, fun f n => rfl, h, hF, hw, SameC.refl _, SameF.refl _ _⟩
  | W + 1, F, C, ds, h, hA, hF, hw => by
    have hC := hF.good.ok.client c C h.cl
    have hp : 0 < pend C.lanes := by have := hC.waiting; omega
    obtain ⟨k, l, hl, hlp⟩ := pend_pos hp
    have hne : F.choices ≠ [] := by
      unfold Fab.choices
      intro he
      exact compChoices_of h.cl hl hlp (List.append_eq_nil_iff.1 he).1
    obtain ⟨x, xs, hx⟩ := List.exists_cons_of_ne_nil hne
    have hxm : x ∈ F.choices := by rw [hx]; exact List.mem_cons_self
    obtain ⟨F1, C1, ds1, hst, hB1, hS1, hSF1, hW1⟩ := h.step hA hF.good hxm
    have hF1 : Fine F1 := by have := hF.step x; rw [hst] at this; exact this
    obtain ⟨F', C', ds', hd, hB', hF', hw', hS', hSF'⟩ := drain ht W F1 C1 ds1 hB1 (by rw [hSF1.nlen]; exact hA) hF1 (by omega)
    refine ⟨F', C', ds', fun f n => ?_, hB', hF', hw', hS1.trans hS', hSF1.trans hSF'⟩
    have hrs : rstep F [] n = (true, F1) := by
      unfold rstep
      have : rpick F [] n = 0 := rfl
      rw [this, hx]
      exact hst
    have htn := turn_wait h.cl ht (by omega : 0 < C.waiting)
    rw [show f + (W + 1) = (f + W) + 1 by omega, driveGo, show happens F cs n [] = F from rfl, turns_one, htn]
    dsimp only
    rw [hrs, if_pos rfl]
    dsimp only
    rw [hd f (n + 1)]
    congr 1
    omega

theorem Bat.done {N : List NodeS} {vs : List Verb} {c : Nat} {F : Fab} {C : Comp} {ds : List Done} (h : Bat N vs c F C ds) (hF : Fine F) (hw : C.waiting = 0) :
    idleC C ∧ ∀ (k : Nat) (v : Verb), vs[k]? = some v → ∃ n0, N[v.node.toNat]? = some n0 ∧ ds[k]? = some (serve C.inc c v n0).1 ∧ F.nodes[v.node.toNat]? = some (serve C.inc c v n0).2 := by
  have hC := hF.good.ok.client c C h.cl
  have hp : Go.Proofs.YteaknokogenndaaGreat.pend C.lanes = 0 := by rw [← hC.waiting]; exact hw
  have hid : idleC C := fun l hl => pend_zero hp l hl
  refine ⟨hid, fun k v hk => ?_⟩
  obtain ⟨n0, hn0, hc⟩ := h.pend k v hk
  rcases hc with ⟨l, g1, g2, _⟩ | ⟨_, g3, g4⟩
  · have := hid l (List.mem_of_getElem? g1)
    rw [this] at g2
    cases g2
  · exact ⟨n0, hn0, g3, g4⟩

/-- A conversation posts a batch, which is executed; it is then handed to the conversation. -/
theorem phase {cs : List Int} {c : Nat} {F : Fab} {C : Comp} (h : Calm c F C) {t : Talk} (ht : t.client = c) (hov : t.over = false) (hlen : t.got.length ≤ 200) {vs : List Verb} {o : Out} (hp : pnext t.job t.got = (vs, o, false)) (hA : Asks F.nodes.length vs) (h0 : 0 < vs.length) (h1 : vs.length ≤ 1024) (hb : firstBad F.nodes.length F.lines vs = 0) :
    ∃ (F2 F3 : Fab) (C3 : Comp) (ds : List Done), (∀ G t0, turn G t0 = tailP F t → ∀ f n, driveGo cs [] [] (f + vs.length) n G [t0] = driveGo cs [] [] f (n + vs.length) F2 [{ t with code := o.code, value := o.value }]) ∧
      turn F2 { t with code := o.code, value := o.value } = tailP F3 { t with code := o.code, value := o.value, got := t.got ++ [ds] } ∧ Calm c F3 C3 ∧ ds.length = vs.length ∧ SameF c F F3 ∧ C3.inc = C.inc ∧ C3.trips = IntKind.i64.wrap (C.trips + 1) ∧
      (∀ (k : Nat) (v : Verb), vs[k]? = some v → ∃ n0, F.nodes[v.node.toNat]? = some n0 ∧ ds[k]? = some (serve C.inc c v n0).1 ∧ F3.nodes[v.node.toNat]? = some (serve C.inc c v n0).2) ∧
      (∀ j : Nat, (∀ v ∈ vs, v.node ≠ (j : Int)) → F3.nodes[j]? = F.nodes[j]?) := by
  obtain ⟨hpost, hB⟩ := h.post hA h0 h1 hb
  have hclt := (List.getElem?_eq_some_iff.1 h.cl).1
  have hF1 : Fine (F.setC c (C.posted' vs)) := by have := h.fine.post c vs; rw [hpost] at this; exact this
  have htold : t.told = { t with code := o.code, value := o.value } := by
    unfold Talk.told
    rw [hp]
    rw [← hov]
  generalize ht' : ({ t with code := o.code, value := o.value } : Talk) = t' at htold ⊢
  have htc : t'.client = c := by rw [← ht']; exact ht
  have htail : tailP F t = (F.setC c (C.posted' vs), t') := by
    unfold tailP
    rw [if_neg (by omega), hp]
    dsimp only
    rw [if_neg (by simp), ht, hpost]
    dsimp only
    rw [if_neg (by simp), htold]
  have hwt : (C.posted' vs).waiting = vs.length := rfl
  have hnl : (F.setC c (C.posted' vs)).nodes.length = F.nodes.length := rfl
  obtain ⟨F2, C2, ds, hdr, hB2, hF2, hw2, hS2, hSF2⟩ := drain (cs := cs) htc vs.length _ _ _ hB (by rw [hnl]; exact hA) hF1 hwt
  obtain ⟨hid, hdone⟩ := hB2.done hF2 hw2
  have hal2 : C2.alive = true := by rw [hS2.alive]; show (C.postFrom 0 vs).alive = true; rw [(postFrom_same vs 0 C).1]; exact h.alive
  have hinc2 : C2.inc = C.inc := by rw [hS2.inc]; show (C.postFrom 0 vs).inc = C.inc; exact (postFrom_same vs 0 C).2
  have h2lt := (List.getElem?_eq_some_iff.1 hB2.cl).1
  have htake : F2.take c = (some ds, F2.setC c { C2 with batch := none }) := by
    unfold Fab.take
    rw [cl_nat hB2.cl]
    dsimp only
    rw [if_neg (by rw [hal2]; simp), hB2.batch]
    dsimp only
    rw [if_neg (by omega)]
  have hset3 : (F2.setC c { C2 with batch := none }).clients = F2.clients.set c { C2 with batch := none } := by unfold Fab.setC; simp
  refine ⟨F2, F2.setC c { C2 with batch := none }, { C2 with batch := none }, ds, fun G t0 hG f n => ?_, ?_, ⟨?_, ⟨hB2.orph, ?_⟩, ?_, hal2, rfl⟩, hB2.len, ?_, hinc2, ?_, ?_, ?_⟩
  · obtain ⟨m, hm⟩ : ∃ m, vs.length = m + 1 := ⟨vs.length - 1, by omega⟩
    have hw1 := turn_wait hB.cl htc (by rw [hwt]; exact h0)
    rw [show f + vs.length = (f + m) + 1 by omega, drive_turn (hG.trans htail) hw1, show (f + m) + 1 = f + vs.length by omega]
    exact hdr f n
  · have hal : F2.alive t'.client = true := by unfold Fab.alive; rw [htc, cl_nat hB2.cl]; exact hal2
    have hwz : F2.waiting t'.client = 0 := by unfold Fab.waiting; rw [htc, cl_nat hB2.cl]; exact hw2
    have hov' : t'.over = false := by rw [← ht']; exact hov
    unfold turn
    rw [if_neg (by rw [hal, hwz, hov']; simp), htc, htake, ← ht']
    rfl
  · have := hF2.take (c : Int)
    rw [htake] at this
    exact this
  · intro D hD
    rw [hset3] at hD
    obtain ⟨i, hi⟩ := List.mem_iff_getElem?.1 hD
    rcases get_set h2lt hi with ⟨e, rfl⟩ | ⟨e, hi⟩
    · exact hid
    · exact hB2.quiet i D (fun e' => e e'.symm) hi
  · rw [hset3]; exact List.getElem?_set_self h2lt
  · have h4 : SameF c F (F.setC c (C.posted' vs)) := ⟨rfl, by unfold Fab.setC; simp, fun i hi => by unfold Fab.setC; simp; rw [List.getElem?_set_ne (fun e => hi e.symm)], rfl⟩
    have h5 : SameF c F2 (F2.setC c { C2 with batch := none }) := ⟨rfl, by rw [hset3]; simp, fun i hi => by rw [hset3, List.getElem?_set_ne (fun e => hi e.symm)], rfl⟩
    exact (h4.trans hSF2).trans h5
  · show C2.trips = _
    rw [hS2.trips]
    rfl
  · intro k v hk
    have := hdone k v hk
    rw [hinc2] at this
    exact this
  · intro j hj
    exact hB2.rest j hj

theorem over_done {cs : List Int} {G F : Fab} {t0 t : Talk} (h : turn G t0 = (F, t)) (ho : t.over = true) (hq : Quiet F) (f n : Nat) : driveGo cs [] [] (f + 1) n G [t0] = (F, [t]) ∧ turns F [t] = (F, [t]) := by
  have hrs : rstep F [] n = (false, F) := by
    unfold rstep
    rw [hq.choices]
    rfl
  refine ⟨?_, ?_⟩
  · rw [driveGo, show happens G cs n [] = G from rfl, turns_one, h]
    dsimp only
    rw [hrs]
    rfl
  · rw [turns_one]
    have : turn F t = (F, t) := by unfold turn; rw [if_pos (.inl ho)]
    rw [this]
end Go.Proofs.YteaknokogenndaaGreat
