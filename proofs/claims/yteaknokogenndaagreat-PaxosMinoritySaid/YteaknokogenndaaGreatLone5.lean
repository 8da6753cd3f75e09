/- A proposer that is alone on the fabric: the theorem. -/
import Derived.Test.YteaknokogenndaaGreatLone4
set_option linter.unusedVariables false
namespace Go.Proofs.YteaknokogenndaaGreat
open Go.Eng

theorem Calm.nodeOk {c : Nat} {F : Fab} {C : Comp} (h : Calm c F C) (hl : 98 ≤ F.lines) {i : Nat} {n : NodeS} (hn : F.nodes[i]? = some n) : NodeOk F.lines n :=
  ⟨h.fine.good.ok.words n (List.mem_of_getElem? hn), hl, h.fine.good.ok.lines.2⟩

theorem read_asks {j : Job} {n : Nat} (hn : j.nodes = n) : Asks n (readAsk j) := by
  refine ⟨fun v hv => ?_, fun v hv => ?_, fun k k' v v' hk hk' he => ?_⟩
  · simp only [readAsk, List.mem_map, List.mem_range] at hv
    obtain ⟨i, hi, rfl⟩ := hv
    show 0 ≤ (i : Int) ∧ (i : Int) < n
    omega
  · simp only [readAsk, List.mem_map] at hv
    obtain ⟨i, _, rfl⟩ := hv
    exact single_of rfl
  · have h1 : k < j.nodes.toNat := by rw [← readAsk_len]; exact (List.getElem?_eq_some_iff.1 hk).1
    have h2 : k' < j.nodes.toNat := by rw [← readAsk_len]; exact (List.getElem?_eq_some_iff.1 hk').1
    rw [readAsk_get j h1] at hk
    rw [readAsk_get j h2] at hk'
    cases hk
    cases hk'
    have : (k : Int) = k' := he
    omega

theorem swap_asks {j : Job} {n : Nat} {nx : Int → Int} {l : List Acc} (hs : l.Pairwise fun x y => x.node < y.node) (hr : ∀ x ∈ l, 0 ≤ x.node ∧ x.node < n) : Asks n (swapAsk j nx l) := by
  refine ⟨fun v hv => ?_, fun v hv => ?_, fun k k' v v' hk hk' he => ?_⟩
  · simp only [swapAsk, List.mem_map] at hv
    obtain ⟨x, hx, rfl⟩ := hv
    exact hr x hx
  · simp only [swapAsk, List.mem_map] at hv
    obtain ⟨i, _, rfl⟩ := hv
    exact single_of rfl
  · unfold swapAsk at hk hk'
    rw [List.getElem?_map] at hk hk'
    cases h1 : l[k]? with
    | none => rw [h1] at hk; cases hk
    | some x =>
      cases h2 : l[k']? with
      | none => rw [h2] at hk'; cases hk'
      | some y =>
        rw [h1] at hk
        rw [h2] at hk'
        cases hk
        cases hk'
        exact sorted_inj hs k k' x y h1 h2 he

/-- The talk when a batch has come back. -/
def Talk.next (t : Talk) (ds : List Done) : Talk := { t with code := 0, value := 0, got := t.got ++ [ds] }

theorem read_phase {cs : List Int} {c : Nat} {F : Fab} {C : Comp} (h : Calm c F C) (hl : 98 ≤ F.lines) {t : Talk} (ht : t.client = c) (hov : t.over = false) (hgot : t.got = []) {j : Job} (hjob : t.job = j) {a : Nat} (hv : j.valid = 0) (hn : j.nodes = F.nodes.length) (ha : j.at_ = a) (ha2 : 8 ≤ a ∧ a ≤ 23) :
    ∃ (F2 F3 : Fab) (C3 : Comp), (∀ G t0, turn G t0 = tailP F t → ∀ f n, driveGo cs [] [] (f + F.nodes.length) n G [t0] = driveGo cs [] [] f (n + F.nodes.length) F2 [{ t with code := 0, value := 0 }]) ∧
      turn F2 { t with code := 0, value := 0 } = tailP F3 (t.next (F.nodes.map (rep a))) ∧ Calm c F3 C3 ∧ SameF c F F3 ∧ C3.inc = C.inc ∧ C3.trips = IntKind.i64.wrap (C.trips + 1) ∧ F3.nodes = F.nodes := by
  have hj := jvalid_zero hv
  have hlen : (readAsk j).length = F.nodes.length := by rw [readAsk_len]; omega
  have hl2 := h.fine.good.ok.lines.2
  obtain ⟨F2, F3, C3, ds, h1, h2, h3, h4, h5, h6, h7, h8, h9⟩ := phase (cs := cs) h ht hov (by rw [hgot]; simp) (vs := readAsk j) (o := out0) (by rw [hjob, hgot]; exact p1 hv) (read_asks hn) (by omega) (by omega) (by
    refine firstBad_of fun v hvm => ?_
    simp only [readAsk, List.mem_map, List.mem_range] at hvm
    obtain ⟨i, hi, rfl⟩ := hvm
    rw [ha]
    exact rd_valid (by omega) (by omega) ha2 (by omega))
  rw [hlen] at h1
  have hpt : ∀ k : Nat, k < F.nodes.length → ∃ n0, F.nodes[k]? = some n0 ∧ ds[k]? = some (rep a n0) ∧ F3.nodes[k]? = some n0 := by
    intro k hk
    obtain ⟨n0, g1, g2, g3⟩ := h8 k _ (readAsk_get j (by omega))
    have e : (rdVerb (k : Int) j.at_).node.toNat = k := by show (k : Int).toNat = k; omega
    rw [e] at g1 g3
    rw [ha, serve_rd (h.nodeOk hl g1) (by omega) ha2] at g2 g3
    exact ⟨n0, g1, g2, g3⟩
  have hds : ds = F.nodes.map (rep a) := by
    apply List.ext_getElem?
    intro k
    rw [List.getElem?_map]
    by_cases hk : k < F.nodes.length
    · obtain ⟨n0, g1, g2, _⟩ := hpt k hk
      rw [g1, g2]
      rfl
    · rw [List.getElem?_eq_none (by omega), List.getElem?_eq_none (by omega)]
      rfl
  have hnodes : F3.nodes = F.nodes := by
    apply List.ext_getElem?
    intro k
    by_cases hk : k < F.nodes.length
    · obtain ⟨n0, g1, _, g3⟩ := hpt k hk
      rw [g1, g3]
    · have := h5.nlen
      rw [List.getElem?_eq_none (by omega), List.getElem?_eq_none (by omega)]
  rw [hds] at h2
  exact ⟨F2, F3, C3, h1, h2, h3, h5, h6, h7, hnodes⟩

theorem cas_phase {cs : List Int} {c : Nat} {F : Fab} {C : Comp} (h : Calm c F C) (hl : 98 ≤ F.lines) {t : Talk} (ht : t.client = c) (hov : t.over = false) (hgot : t.got.length ≤ 200) {j : Job} {a : Nat} (ha : j.at_ = a) (ha2 : 8 ≤ a ∧ a ≤ 23) {nx : Int → Int} {l : List Acc}
    (hp : pnext t.job t.got = (swapAsk j nx l, out0, false)) (hs : l.Pairwise fun x y => x.node < y.node) (h0 : 0 < l.length) (hinc : 0 ≤ C.inc)
    (hx : ∀ x ∈ l, 0 ≤ x.node ∧ ∃ nd, F.nodes[x.node.toNat]? = some nd ∧ nd.down = false ∧ nd.get a = x.word ∧ nd.get (24 + c) ≤ C.inc) :
    ∃ (F2 F3 : Fab) (C3 : Comp), (∀ G t0, turn G t0 = tailP F t → ∀ f n, driveGo cs [] [] (f + l.length) n G [t0] = driveGo cs [] [] f (n + l.length) F2 [{ t with code := 0, value := 0 }]) ∧
      turn F2 { t with code := 0, value := 0 } = tailP F3 (t.next (l.map fun (x : Acc) => (⟨0, [x.word]⟩ : Done))) ∧ Calm c F3 C3 ∧ SameF c F F3 ∧ C3.inc = C.inc ∧ C3.trips = IntKind.i64.wrap (C.trips + 1) ∧
      (∀ x ∈ l, ∃ nd, F.nodes[x.node.toNat]? = some nd ∧ F3.nodes[x.node.toNat]? = some { nd with words := nd.words.set a (nx x.word) }) ∧ (∀ i : Nat, (∀ x ∈ l, x.node ≠ (i : Int)) → F3.nodes[i]? = F.nodes[i]?) ∧ l.length ≤ 5 := by
  have hlen : (swapAsk j nx l).length = l.length := by simp [swapAsk]
  have hl2 := h.fine.good.ok.lines.2
  have hN := h.fine.good.ok.nodes
  have hr : ∀ x ∈ l, 0 ≤ x.node ∧ x.node < F.nodes.length := fun x hm => by
    obtain ⟨g0, nd, g1, _⟩ := hx x hm
    have := (List.getElem?_eq_some_iff.1 g1).1
    omega
  have hl5 : l.length ≤ 5 := by
    have key : ∀ {l : List Acc} {m : Nat}, (l.Pairwise fun x y => x.node < y.node) → (∀ x ∈ l, 0 ≤ x.node ∧ x.node < m) → l.length ≤ m := by
      intro l
      induction l with
      | nil => intro m _ _; simp
      | cons y ys ih =>
        intro m hs hm
        obtain ⟨q1, q2⟩ := List.pairwise_cons.1 hs
        have hy := hm y List.mem_cons_self
        have : ys.length ≤ m - 1 := by
          have hshift : ∀ {zs : List Acc} {lo hi : Int}, (zs.Pairwise fun x y => x.node < y.node) → (∀ x ∈ zs, lo < x.node ∧ x.node < hi) → (zs.length : Int) ≤ max 0 (hi - lo - 1) := by
            intro zs
            induction zs with
            | nil => intro lo hi _ _; simp; omega
            | cons z zs ih2 =>
              intro lo hi hs2 hm2
              obtain ⟨r1, r2⟩ := List.pairwise_cons.1 hs2
              have hz := hm2 z List.mem_cons_self
              have := ih2 (lo := z.node) (hi := hi) r2 fun x hx => ⟨r1 x hx, (hm2 x (List.mem_cons_of_mem _ hx)).2⟩
              simp
              omega
          have := hshift (lo := y.node) (hi := m) q2 fun x hx => ⟨q1 x hx, (hm x (List.mem_cons_of_mem _ hx)).2⟩
          omega
        simp
        omega
    have := key hs hr
    omega
  obtain ⟨F2, F3, C3, ds, h1, h2, h3, h4, h5, h6, h7, h8, h9⟩ := phase (cs := cs) h ht hov hgot (vs := swapAsk j nx l) (o := out0) hp (swap_asks hs hr) (by omega) (by omega) (by
    refine firstBad_of fun v hvm => ?_
    simp only [swapAsk, List.mem_map] at hvm
    obtain ⟨x, hxm, rfl⟩ := hvm
    rw [ha]
    exact cas_valid (by omega) (hr x hxm) ha2 (by omega))
  rw [hlen] at h1
  have hpt : ∀ (k : Nat) (x : Acc), l[k]? = some x → ∃ nd, F.nodes[x.node.toNat]? = some nd ∧ ds[k]? = some ⟨0, [x.word]⟩ ∧ F3.nodes[x.node.toNat]? = some { nd with words := nd.words.set a (nx x.word) } := by
    intro k x hk
    have hxm := List.mem_of_getElem? hk
    obtain ⟨g0, nd, g1, g2, g3, g4⟩ := hx x hxm
    have hvk : (swapAsk j nx l)[k]? = some (casVerb x.node j.at_ x.word (nx x.word)) := by unfold swapAsk; rw [List.getElem?_map, hk]; rfl
    obtain ⟨n0, e1, e2, e3⟩ := h8 k _ hvk
    have e : (casVerb x.node j.at_ x.word (nx x.word)).node = x.node := rfl
    rw [e, g1] at e1
    cases e1
    rw [e] at e3
    have hxi := hr x hxm
    obtain ⟨i, hi⟩ := Int.eq_ofNat_of_zero_le g0
    have hsv : serve C.inc c (casVerb x.node j.at_ x.word (nx x.word)) nd = (⟨0, [x.word]⟩, { nd with words := nd.words.set a (nx x.word) }) := by
      rw [ha, hi]
      exact serve_cas (h.nodeOk hl g1) (by omega) ha2 hinc g4 g2 g3
    rw [hsv] at e2 e3
    exact ⟨nd, g1, e2, e3⟩
  have hds : ds = l.map fun (x : Acc) => (⟨0, [x.word]⟩ : Done) := by
    apply List.ext_getElem?
    intro k
    rw [List.getElem?_map]
    cases hk : l[k]? with
    | none =>
      have := List.getElem?_eq_none_iff.1 hk
      rw [List.getElem?_eq_none (by omega)]
      rfl
    | some x =>
      obtain ⟨_, _, g2, _⟩ := hpt k x hk
      rw [g2]
      rfl
  rw [hds] at h2
  refine ⟨F2, F3, C3, h1, h2, h3, h5, h6, h7, fun x hxm => ?_, fun i hi => ?_, hl5⟩
  · obtain ⟨k, hk⟩ := List.mem_iff_getElem?.1 hxm
    obtain ⟨nd, g1, _, g3⟩ := hpt k x hk
    exact ⟨nd, g1, g3⟩
  · refine h9 i fun v hvm => ?_
    simp only [swapAsk, List.mem_map] at hvm
    obtain ⟨x, hxm, rfl⟩ := hvm
    exact hi x hxm
end Go.Proofs.YteaknokogenndaaGreat
