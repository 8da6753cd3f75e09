/- A proposer that is alone on the fabric: how it ends. -/
import Derived.Test.YteaknokogenndaaGreatLone5
set_option linter.unusedVariables false
namespace Go.Proofs.YteaknokogenndaaGreat
open Go.Eng

/-- What a lone proposer makes of a node. -/
def upd (a : Nat) (b w : Int) (n : NodeS) : NodeS := if n.down = false ∧ cwP (n.get a) < b then { n with words := n.words.set a w } else n

theorem cands_mem {a : Nat} {b : Int} {N : List NodeS} {x : Acc} (h : x ∈ candsOf a b N) : ∃ (k : Nat) (n : NodeS), N[k]? = some n ∧ n.down = false ∧ cwP (n.get a) < b ∧ x = ⟨(k : Int), n.get a⟩ := by
  obtain ⟨h1, h2⟩ := List.mem_filter.1 h
  obtain ⟨k, n, g1, g2, rfl⟩ := ups_mem h1
  rw [Nat.zero_add]
  exact ⟨k, n, g1, g2, by simpa using h2, rfl⟩

theorem cands_of {a : Nat} {b : Int} {N : List NodeS} {k : Nat} {n : NodeS} (hk : N[k]? = some n) (hd : n.down = false) (hb : cwP (n.get a) < b) : (⟨(k : Int), n.get a⟩ : Acc) ∈ candsOf a b N := by
  have := ups_of (a := a) (i := 0) hk hd
  rw [Nat.zero_add] at this
  exact List.mem_filter.2 ⟨this, by simpa using hb⟩

theorem cands_sorted (a : Nat) (b : Int) (N : List NodeS) : (candsOf a b N).Pairwise fun x y => x.node < y.node := (ups_sorted a N 0).filter _

theorem prom_sorted (a : Nat) (b : Int) (N : List NodeS) : (promOf a b N).Pairwise fun x y => x.node < y.node := by
  unfold promOf
  rw [List.pairwise_map]
  exact cands_sorted a b N

theorem nget_self {n : NodeS} {a : Nat} {w : Int} (h : a < n.words.length) : NodeS.get { n with words := n.words.set a w } a = w := by
  unfold NodeS.get
  simp [h]

theorem nget_ne {n : NodeS} {a i : Nat} {w : Int} (h : a ≠ i) : NodeS.get { n with words := n.words.set a w } i = n.get i := by
  unfold NodeS.get
  simp [List.getElem?_set_ne h]

theorem start_turn {c : Nat} {F : Fab} {C : Comp} (h : Calm c F C) {t : Talk} (ht : t.client = c) (hov : t.over = false) : turn F t = tailP F t := by
  have hC := h.fine.good.ok.client c C h.cl
  have hw : C.waiting = 0 := by have := hC.batch.1; rw [h.batch] at this; simpa using this
  have h1 : F.alive t.client = true := by unfold Fab.alive; rw [ht, cl_nat h.cl]; exact h.alive
  have h2 : F.waiting t.client = 0 := by unfold Fab.waiting; rw [ht, cl_nat h.cl]; exact hw
  have h3 : F.take t.client = (none, F) := by
    unfold Fab.take
    rw [ht, cl_nat h.cl]
    dsimp only
    rw [if_neg (by rw [h.alive]; simp), h.batch]
  unfold turn
  rw [if_neg (by rw [hov, h1, h2]; simp), h3]
  rfl

/-- How a lone proposer ends. -/
structure Ends (c : Nat) (F : Fab) (C : Comp) (t : Talk) (j : Job) (a : Nat) (b : Int) (F' : Fab) (C' : Comp) (t' : Talk) : Prop where
  run : alone F t = (F', [t'])
  calm : Calm c F' C'
  same : SameF c F F'
  inc : C'.inc = C.inc
  over : t'.over = true
  bad : t'.bad = t.bad
  out : (((upsFrom a 0 F.nodes).length : Int) < majority j.nodes ∧ t'.code = 9 ∧ F'.nodes = F.nodes ∧ C'.trips = IntKind.i64.wrap (C.trips + 1)) ∨
    (majority j.nodes ≤ (upsFrom a 0 F.nodes).length ∧ ((candsOf a b F.nodes).length : Int) < majority j.nodes ∧ t'.code = 8 ∧ F'.nodes = F.nodes) ∨
    (majority j.nodes ≤ (upsFrom a 0 F.nodes).length ∧ majority j.nodes ≤ (candsOf a b F.nodes).length ∧ t'.code = 0 ∧ t'.value = valOf a b F.nodes j.value ∧ F'.nodes = F.nodes.map (upd a b (accOf a b F.nodes j.value)) ∧ C'.trips = IntKind.i64.wrap (IntKind.i64.wrap (IntKind.i64.wrap (C.trips + 1) + 1) + 1))

set_option maxHeartbeats 1000000 in
theorem lone {c : Nat} {F : Fab} {C : Comp} (h : Calm c F C) (hl : 98 ≤ F.lines) {t : Talk} (ht : t.client = c) (hov : t.over = false) (hgot : t.got = []) {j : Job} (hjob : t.job = j) {a : Nat} (hv : j.valid = 0) (hn : j.nodes = F.nodes.length) (ha : j.at_ = a) (ha2 : 8 ≤ a ∧ a ≤ 23) {b : Int} (hb : b = ballot j.round j.client)
    (hdoor : ∀ n ∈ F.nodes, n.get (24 + c) ≤ C.inc) : ∃ F' C' t', Ends c F C t j a b F' C' t' := by
  have hj := jvalid_zero hv
  have hm := maj_pos hv
  have hinc := (h.fine.good.ok.client c C h.cl).inc.1
  have hN5 := h.fine.good.ok.nodes.2
  obtain ⟨F2, F3, C3, d1, d2, hc3, s3, i3, r3, n3⟩ := read_phase (cs := [t.client]) h hl ht hov hgot hjob hv hn ha ha2
  have hst := start_turn h ht hov
  have halone : ∀ F' t', driveGo [t.client] [] [] 20000 0 F [t] = (F', [t']) → turns F' [t'] = (F', [t']) → alone F t = (F', [t']) := by
    intro F' t' h1 h2
    unfold alone drive
    have e : ([t].map Talk.client) = [t.client] := rfl
    rw [e, h1]
    exact h2
  have hgn : (t.next (F.nodes.map (rep a))).got = [F.nodes.map (rep a)] := by show t.got ++ _ = _; rw [hgot]; rfl
  by_cases hA : majority j.nodes ≤ (upsFrom a 0 F.nodes).length ∧ majority j.nodes ≤ (candsOf a b F.nodes).length
  · obtain ⟨hA1, hA2⟩ := hA
    have hl3 : 98 ≤ F3.lines := by rw [s3.lines]; exact hl
    -- the promises
    have hK : ∀ x ∈ candsOf a b F.nodes, 0 ≤ x.node ∧ ∃ nd, F3.nodes[x.node.toNat]? = some nd ∧ nd.down = false ∧ nd.get a = x.word ∧ nd.get (24 + c) ≤ C3.inc := by
      intro x hx
      obtain ⟨k, nd, g1, g2, g3, rfl⟩ := cands_mem hx
      refine ⟨by show 0 ≤ (k : Int); omega, nd, ?_, g2, rfl, ?_⟩
      · rw [n3]; show F.nodes[(k : Int).toNat]? = some nd; rw [Int.toNat_natCast]; exact g1
      · rw [i3]; exact hdoor nd (List.mem_of_getElem? g1)
    obtain ⟨F4, F5, C5, e1, e2, hc5, s5, i5, r5, m5, o5, l5⟩ := cas_phase (cs := [t.client]) hc3 hl3 (t := t.next (F.nodes.map (rep a))) ht hov (by rw [hgn]; simp) ha ha2 (nx := promiseW b) (l := candsOf a b F.nodes) (by rw [hgn]; show pnext t.job _ = _; rw [hjob]; exact p2_ask hv hn hb hA1 hA2) (cands_sorted a b F.nodes) (by omega) (by omega) hK
    have hgn2 : ((t.next (F.nodes.map (rep a))).next ((candsOf a b F.nodes).map fun (x : Acc) => (⟨0, [x.word]⟩ : Done))).got = [F.nodes.map (rep a), (candsOf a b F.nodes).map fun (x : Acc) => (⟨0, [x.word]⟩ : Done)] := by
      show (t.next (F.nodes.map (rep a))).got ++ _ = _
      rw [hgn]
      rfl
    have hl5 : 98 ≤ F5.lines := by rw [s5.lines]; exact hl3
    -- the acceptances
    have hP : ∀ x ∈ promOf a b F.nodes, 0 ≤ x.node ∧ ∃ nd, F5.nodes[x.node.toNat]? = some nd ∧ nd.down = false ∧ nd.get a = x.word ∧ nd.get (24 + c) ≤ C5.inc := by
      intro y hy
      obtain ⟨x, hx, rfl⟩ := List.mem_map.1 hy
      obtain ⟨k, nd, g1, g2, g3, he⟩ := cands_mem hx
      obtain ⟨nd', q1, q2⟩ := m5 x hx
      obtain ⟨_, nd2, q3, q4, q5, q6⟩ := hK x hx
      rw [q3] at q1
      cases q1
      have hok := hc3.nodeOk hl3 q3
      have hlt : a < nd'.words.length := by have := hok.len; have := hok.l98; omega
      refine ⟨by rw [he]; show 0 ≤ (k : Int); omega, _, q2, q4, nget_self hlt, ?_⟩
      rw [nget_ne (by omega), i5]
      exact q6
    obtain ⟨F6, F7, C7, f1, f2, hc7, s7, i7, r7, m7, o7, l7⟩ := cas_phase (cs := [t.client]) hc5 hl5 (t := (t.next (F.nodes.map (rep a))).next ((candsOf a b F.nodes).map fun (x : Acc) => (⟨0, [x.word]⟩ : Done))) ht hov (by rw [hgn2]; simp) ha ha2 (nx := fun _ => accOf a b F.nodes j.value) (l := promOf a b F.nodes) (by rw [hgn2]; show pnext t.job _ = _; rw [hjob]; exact p3_ask hv hn hb hA1 hA2) (prom_sorted a b F.nodes) (by rw [prom_len]; omega) (by omega) hP
    generalize ht3 : ((t.next (F.nodes.map (rep a))).next ((candsOf a b F.nodes).map fun (x : Acc) => (⟨0, [x.word]⟩ : Done))).next ((promOf a b F.nodes).map fun (x : Acc) => (⟨0, [x.word]⟩ : Done)) = t3 at f2
    have hgn3 : t3.got = [F.nodes.map (rep a), (candsOf a b F.nodes).map fun (x : Acc) => (⟨0, [x.word]⟩ : Done), (promOf a b F.nodes).map fun (x : Acc) => (⟨0, [x.word]⟩ : Done)] := by
      rw [← ht3]
      show ((t.next (F.nodes.map (rep a))).next ((candsOf a b F.nodes).map fun (x : Acc) => (⟨0, [x.word]⟩ : Done))).got ++ _ = _
      rw [hgn2]
      rfl
    have hpn : pnext t3.job t3.got = ([], ⟨0, valOf a b F.nodes j.value, 0⟩, true) := by
      have : t3.job = j := by rw [← ht3]; exact hjob
      rw [this, hgn3]
      exact p4_out hv hn hb hA1 hA2
    have htl : tailP F7 t3 = (F7, t3.told) := by
      unfold tailP
      rw [if_neg (by rw [hgn3]; simp), hpn]
      rfl
    rw [htl] at f2
    have hto : t3.told.over = true := by unfold Talk.told; rw [hpn]
    have hrun := over_done (cs := [t.client]) f2 hto hc7.quiet (19999 - F.nodes.length - (candsOf a b F.nodes).length - (promOf a b F.nodes).length) (0 + F.nodes.length + (candsOf a b F.nodes).length + (promOf a b F.nodes).length)
    have hfuel : 20000 = 19999 - F.nodes.length - (candsOf a b F.nodes).length - (promOf a b F.nodes).length + 1 + (promOf a b F.nodes).length + (candsOf a b F.nodes).length + F.nodes.length := by omega
    refine ⟨F7, C7, t3.told, ⟨halone _ _ ?_ hrun.2, hc7, (s3.trans s5).trans s7, by rw [i7, i5, i3], hto, by unfold Talk.told; rw [← ht3]; rfl, .inr (.inr ⟨hA1, hA2, ?_, ?_, ?_, by rw [r7, r5, r3]⟩)⟩⟩
    · rw [hfuel, d1 F t hst, e1 F2 _ d2, f1 F4 _ e2]
      exact hrun.1
    · unfold Talk.told; rw [hpn]
    · unfold Talk.told; rw [hpn]
    · apply List.ext_getElem?
      intro k
      rw [List.getElem?_map]
      cases hk : F.nodes[k]? with
      | none =>
        have h1 := List.getElem?_eq_none_iff.1 hk
        have h2 := ((s3.trans s5).trans s7).nlen
        rw [List.getElem?_eq_none (by omega)]
        rfl
      | some nd =>
        show F7.nodes[k]? = some (upd a b _ nd)
        unfold upd
        by_cases hcd : nd.down = false ∧ cwP (nd.get a) < b
        · rw [if_pos hcd]
          have hx := cands_of hk hcd.1 hcd.2
          obtain ⟨nd1, q1, q2⟩ := m5 _ hx
          have hxp : (⟨(k : Int), promiseW b (nd.get a)⟩ : Acc) ∈ promOf a b F.nodes := List.mem_map.2 ⟨_, hx, rfl⟩
          obtain ⟨nd2, q3, q4⟩ := m7 _ hxp
          have ek : (k : Int).toNat = k := Int.toNat_natCast k
          simp only [ek] at q1 q2 q3 q4
          rw [n3, hk] at q1
          cases q1
          rw [q2] at q3
          cases q3
          rw [q4]
          simp [List.set_set]
        · rw [if_neg hcd]
          have hno : ∀ x ∈ candsOf a b F.nodes, x.node ≠ (k : Int) := by
            intro x hx e
            obtain ⟨k', nd', g1, g2, g3, rfl⟩ := cands_mem hx
            have : (k' : Int) = k := e
            have : k' = k := by omega
            subst this
            rw [hk] at g1
            cases g1
            exact hcd ⟨g2, g3⟩
          have hno2 : ∀ x ∈ promOf a b F.nodes, x.node ≠ (k : Int) := by
            intro y hy
            obtain ⟨x, hx, rfl⟩ := List.mem_map.1 hy
            exact hno x hx
          rw [o7 k hno2, o5 k hno, n3, hk]
  · obtain ⟨o, ho, hcode⟩ := p2_out (a := a) (N := F.nodes) hv hn hb hA
    generalize ht1 : t.next (F.nodes.map (rep a)) = t1 at d2
    have hgn1 : t1.got = [F.nodes.map (rep a)] := by rw [← ht1]; exact hgn
    have hpn : pnext t1.job t1.got = ([], o, true) := by
      have : t1.job = j := by rw [← ht1]; exact hjob
      rw [this, hgn1]
      exact ho
    have htl : tailP F3 t1 = (F3, t1.told) := by
      unfold tailP
      rw [if_neg (by rw [hgn1]; simp), hpn]
      rfl
    rw [htl] at d2
    have hto : t1.told.over = true := by unfold Talk.told; rw [hpn]
    have hrun := over_done (cs := [t.client]) d2 hto hc3.quiet (19999 - F.nodes.length) (0 + F.nodes.length)
    have hfuel : 20000 = 19999 - F.nodes.length + 1 + F.nodes.length := by omega
    have htc : t1.told.code = o.code := by unfold Talk.told; rw [hpn]
    refine ⟨F3, C3, t1.told, ⟨halone _ _ ?_ hrun.2, hc3, s3, i3, hto, by unfold Talk.told; rw [← ht1]; rfl, ?_⟩⟩
    · rw [hfuel, d1 F t hst]
      exact hrun.1
    · by_cases hU : ((upsFrom a 0 F.nodes).length : Int) < majority j.nodes
      · rw [if_pos hU] at hcode
        exact .inl ⟨hU, by rw [htc, hcode], n3, r3⟩
      · rw [if_neg hU] at hcode
        exact .inr (.inl ⟨by omega, by omega, by rw [htc, hcode], n3⟩)
end Go.Proofs.YteaknokogenndaaGreat
