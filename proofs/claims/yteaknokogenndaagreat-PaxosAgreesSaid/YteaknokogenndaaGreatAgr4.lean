/- The plain law behind PaxosAgrees: proposers under any schedule. -/
import Derived.Test.YteaknokogenndaaGreatAgr3
set_option linter.unusedVariables false
namespace Go.Proofs.YteaknokogenndaaGreat
open Go.Eng

structure Jb (n i : Nat) (j : Job) : Prop where
  nodes : j.nodes = n
  number : j.number = 2
  client : j.client = i
  round : 1 ≤ j.round ∧ j.round ≤ 4
  value : j.value = 100 + i
  lt : i < 4
  n1 : 1 ≤ n ∧ n ≤ 5

theorem Jb.valid {n i : Nat} {j : Job} (h : Jb n i j) : j.valid = 0 := by
  have h1 := h.nodes
  have h2 := h.number
  have h3 := h.client
  have h4 := h.round
  have h5 := h.value
  have h6 := h.lt
  have h7 := h.n1
  unfold Job.valid
  rw [if_neg (by omega), if_neg (by omega), if_neg (by omega), if_neg (by omega), if_neg (by omega)]

theorem Jb.at_ {n i : Nat} {j : Job} (h : Jb n i j) : j.at_ = 10 := by unfold Job.at_; rw [h.number]; decide
theorem Jb.bal {n i : Nat} {j : Job} (h : Jb n i j) : 1 ≤ bal j ∧ bal j ≤ 40 := by
  have h3 := h.client
  have h4 := h.round
  have h6 := h.lt
  unfold Go.Proofs.YteaknokogenndaaGreat.bal ballot
  omega
theorem Jb.ne {n i i' : Nat} {j j' : Job} (h : Jb n i j) (h' : Jb n i' j') (hne : i ≠ i') : Go.Proofs.YteaknokogenndaaGreat.bal j ≠ Go.Proofs.YteaknokogenndaaGreat.bal j' := by
  have h3 := h.client
  have h6 := h.lt
  have k3 := h'.client
  have k6 := h'.lt
  unfold Go.Proofs.YteaknokogenndaaGreat.bal ballot
  omega

inductive Stg (n : Nat) (g : Gh) (j : Job) (C : Comp) : List (List Done) → Prop
  | start (hb : C.batch = none) (hv : g.val (bal j) = none) : Stg n g j C []
  | read (ds : List Done) (hB : Bat2 (Rep g) (readAsk j) C ds) (hv : g.val (bal j) = none) : Stg n g j C []
  | prom (d1 : List Done) (g0 : Int) (K : List Acc) (ds : List Done) (hS : S1 j d1 g0 K) (hB : Bat2 (Rep g) (swapAsk j (promiseW (bal j)) K) C ds) (hv : g.val (bal j) = none) : Stg n g j C [d1]
  | acc (d1 d2 : List Done) (K : List Acc) (g1 : Int) (P : List Acc) (ds : List Done) (hS : S2 j d1 d2 K g1 P) (hP : ∀ y ∈ P, (0 ≤ y.node ∧ y.node < n) ∧ cwP y.word = bal j) (hv : g.val (bal j) = some (valueGo P j.value 0)) (hB : Bat2 (Rep g) (swapAsk j (fun _ => cwOf (bal j) (bal j) (valueGo P j.value 0)) P) C ds) : Stg n g j C [d1, d2]

structure TkI (n : Nat) (g : Gh) (F : Fab) (i : Nat) (t : Talk) : Prop where
  job : Jb n i t.job
  client : t.client = i
  bad : t.bad = false
  cl : ∃ C, F.clients[i]? = some C ∧ ((t.over = true ∧ (t.code = 0 → Chosen n g (bal t.job) t.value)) ∨ (t.over = false ∧ (C.alive = true → Stg n g t.job C t.got)))

theorem Stg.move {n : Nat} {g g' : Gh} {j : Job} {C C' : Comp} {G : List (List Done)} (h : Stg n g j C G) (hc : CStep g g' C C') (hv : g'.val (bal j) = g.val (bal j)) : Stg n g' j C' G := by
  cases h with
  | start hb h1 => rw [hc.none hb]; exact .start hb (by rw [hv]; exact h1)
  | read ds hB h1 => obtain ⟨ds', hB'⟩ := hc.bat _ _ hB; exact .read ds' hB' (by rw [hv]; exact h1)
  | prom d1 g0 K ds hS hB h1 => obtain ⟨ds', hB'⟩ := hc.bat _ _ hB; exact .prom d1 g0 K ds' hS hB' (by rw [hv]; exact h1)
  | acc d1 d2 K g1 P ds hS hP h1 hB => obtain ⟨ds', hB'⟩ := hc.bat _ _ hB; exact .acc d1 d2 K g1 P ds' hS hP (by rw [hv]; exact h1) hB'

theorem TkI.move {n : Nat} {g g' : Gh} {F F' : Fab} {i : Nat} {t : Talk} (h : TkI n g F i t) (hl : g.le g') (hv : g'.val (bal t.job) = g.val (bal t.job)) (hc : ∀ C, F.clients[i]? = some C → ∃ C', F'.clients[i]? = some C' ∧ (CStep g g' C C' ∨ C'.alive = false)) : TkI n g' F' i t := by
  obtain ⟨C, h1, h2⟩ := h.cl
  obtain ⟨C', h3, h4⟩ := hc C h1
  refine ⟨h.job, h.client, h.bad, C', h3, ?_⟩
  rcases h2 with ⟨h5, h6⟩ | ⟨h5, h6⟩
  · exact .inl ⟨h5, fun e => (h6 e).mono hl⟩
  · refine .inr ⟨h5, fun ha => ?_⟩
    rcases h4 with h4 | h4
    · exact (h6 (by rw [← h4.alive]; exact ha)).move h4 hv
    · rw [h4] at ha; cases ha

/-! ### One turn -/

theorem tail_over {F : Fab} {t : Talk} {o : Out} (hl : t.got.length ≤ 200) (h : pnext t.job t.got = ([], o, true)) : tailP F t = (F, t.told) ∧ t.told.over = true ∧ t.told.code = o.code ∧ t.told.value = o.value := by
  unfold tailP
  rw [if_neg (by omega), h]
  unfold Talk.told
  rw [h]
  exact ⟨rfl, rfl, rfl, rfl⟩

theorem tail_post {n : Nat} {g : Gh} {F : Fab} {t : Talk} {i : Nat} {C : Comp} {vs : List Verb} (h : PI n g F) (hn : n ≤ 5) (hi : t.client = i) (hl : t.got.length ≤ 200) (hp : pnext t.job t.got = (vs, out0, false)) (hc : F.clients[i]? = some C) (ha : C.alive = true) (hb : C.batch = none) (h0 : 0 < vs.length) (h1 : vs.length ≤ 1024) (hv : ∀ v ∈ vs, (0 ≤ v.node ∧ v.node < n) ∧ VI g v) :
    ∃ ds, tailP F t = (F.setC i (C.posted' vs), t.told) ∧ t.told.over = false ∧ PI n g (F.setC i (C.posted' vs)) ∧ Bat2 (Rep g) vs (C.posted' vs) ds := by
  have hN := h.fine.good.ok.nodes
  have hbad : firstBad F.nodes.length F.lines vs = 0 := by
    refine firstBad_of fun v hv' => ?_
    obtain ⟨h2, h3⟩ := hv v hv'
    rw [← h.len] at h2
    rw [h.lines]
    cases h3 with
    | rd k e => subst e; exact rd_valid (a := 10) (by omega) h2 (by omega) (by decide)
    | prom k old b e _ _ => subst e; exact cas_valid (a := 10) (by omega) h2 (by omega) (by decide)
    | acc k old b u e _ _ _ => subst e; exact cas_valid (a := 10) (by omega) h2 (by omega) (by decide)
  obtain ⟨a1, a2, a3⟩ := h.post hc ha hb h0 h1 hbad hv
  refine ⟨_, ?_, ?_, a2, a3⟩
  · unfold tailP
    rw [if_neg (by omega), hp]
    dsimp only
    rw [if_neg (by simp), hi, a1]
    rfl
  · unfold Talk.told
    rw [hp]

theorem read_vi {n i : Nat} {g : Gh} {j : Job} (h : Jb n i j) : ∀ v ∈ readAsk j, (0 ≤ v.node ∧ v.node < n) ∧ VI g v := by
  intro v hv
  simp only [readAsk, List.mem_map, List.mem_range] at hv
  obtain ⟨k, hk, rfl⟩ := hv
  have := h.nodes
  refine ⟨⟨by show (0 : Int) ≤ k; omega, by show (k : Int) < n; omega⟩, .rd k (by rw [h.at_])⟩

theorem prom_vi {n i : Nat} {g : Gh} {j : Job} (h : Jb n i j) {K : List Acc} (hK : ∀ x ∈ K, (0 ≤ x.node ∧ x.node < j.nodes) ∧ cwP x.word < bal j) : ∀ v ∈ swapAsk j (promiseW (bal j)) K, (0 ≤ v.node ∧ v.node < n) ∧ VI g v := by
  intro v hv
  simp only [swapAsk, List.mem_map] at hv
  obtain ⟨x, hx, rfl⟩ := hv
  have h1 := hK x hx
  have h2 := h.nodes
  exact ⟨⟨h1.1.1, by have := h1.1.2; show x.node < n; omega⟩, .prom x.node x.word (bal j) (by rw [h.at_]) h1.2 h.bal⟩

theorem acc_vi {n i : Nat} {g : Gh} {j : Job} (h : Jb n i j) {P : List Acc} {u : Int} (hP : ∀ y ∈ P, (0 ≤ y.node ∧ y.node < n) ∧ cwP y.word = bal j) (hu : 100 ≤ u ∧ u < 104) (hv : g.val (bal j) = some u) : ∀ v ∈ swapAsk j (fun _ => cwOf (bal j) (bal j) u) P, (0 ≤ v.node ∧ v.node < n) ∧ VI g v := by
  intro v hv'
  simp only [swapAsk, List.mem_map] at hv'
  obtain ⟨x, hx, rfl⟩ := hv'
  have h1 := hP x hx
  have hb := h.bal
  have hcw : cwOf (bal j) (bal j) u = cw (bal j) (bal j) u := by unfold cwOf; rw [if_pos (by omega)]
  exact ⟨h1.1, .acc x.node x.word (bal j) u (by rw [h.at_, hcw]) h1.2 hb hv⟩

theorem srt_len {n : Nat} {l : List Acc} (hs : Srt l) (hr : ∀ x ∈ l, 0 ≤ x.node ∧ x.node < n) : l.length ≤ n := by
  have := sorted_len (srt_map.1 hs) (lo := 0) (hi := n) (fun x hx => by obtain ⟨y, hy, rfl⟩ := List.mem_map.1 hx; exact hr y hy) (by omega)
  rw [List.length_map] at this
  omega

theorem swapAsk_get {j : Job} {nx : Int → Int} {l : List Acc} {k : Nat} {x : Acc} (h : l[k]? = some x) : (swapAsk j nx l)[k]? = some (casVerb x.node j.at_ x.word (nx x.word)) := by simp [swapAsk, h]

/-- A ballot gets its value. -/
theorem GOk.vote {n : Nat} {g : Gh} (h : GOk n g) {b u c : Int} (hn : g.val b = none) (hu : 100 ≤ u ∧ u < 104) (hb : 1 ≤ b) (h0 : 0 ≤ c) (hc : c < b) (hv : c = 0 ∨ g.val c = some u) (hm : Maj n fun i => g.prom i b ∧ ∀ d v, g.acc i d v → d < b → d ≤ c) :
    GOk n { g with val := fun x => if x = b then some u else g.val x } ∧ g.le { g with val := fun x => if x = b then some u else g.val x } := by
  have hmono : ∀ x v, g.val x = some v → (if x = b then some u else g.val x) = some v := by
    intro x v hx
    rw [if_neg (fun e => by rw [e, hn] at hx; cases hx)]
    exact hx
  refine ⟨⟨fun i x v ha => hmono x v (h.acc i x v ha), fun x v hx => ?_⟩, ⟨fun _ _ _ h => h, fun _ _ h => h, hmono, fun _ _ _ h => .inl h⟩⟩
  have hx : (if x = b then some u else g.val x) = some v := hx
  by_cases hxb : x = b
  · subst hxb
    rw [if_pos rfl] at hx
    cases hx
    exact ⟨hu.1, hu.2, hb, c, h0, hc, hv.imp id (hmono c u), hm⟩
  · rw [if_neg hxb] at hx
    obtain ⟨h1, h2, h3, d, h4, h5, h6, h7⟩ := h.safe x v hx
    exact ⟨h1, h2, h3, d, h4, h5, h6.imp id (hmono d v), h7⟩

structure Turned (n : Nat) (g : Gh) (F : Fab) (i : Nat) (t : Talk) (g' : Gh) (F' : Fab) (t' : Talk) : Prop where
  le : g.le g'
  val : ∀ b, b ≠ bal t.job → g'.val b = g.val b
  pi : PI n g' F'
  ti : TkI n g' F' i t'
  nodes : F'.nodes = F.nodes
  others : ∀ c, c ≠ i → F'.clients[c]? = F.clients[c]?

theorem setC_other {F : Fab} {i c : Nat} {C : Comp} (h : c ≠ i) : (F.setC i C).clients[c]? = F.clients[c]? := by
  show (F.clients.set (i : Int).toNat C)[c]? = _
  rw [Int.toNat_natCast, List.getElem?_set_ne (fun e => h e.symm)]

theorem setC_self {F : Fab} {i : Nat} {C D : Comp} (h : F.clients[i]? = some D) : (F.setC i C).clients[i]? = some C := by
  show (F.clients.set (i : Int).toNat C)[i]? = _
  rw [Int.toNat_natCast]
  exact List.getElem?_set_self (lt_of_get h)

theorem turn_inv {n : Nat} {g : Gh} {F : Fab} {i : Nat} {t : Talk} (h : PI n g F) (ht : TkI n g F i t) : ∃ g', Turned n g F i t g' (turn F t).1 (turn F t).2 := by
  obtain ⟨C, hC, hst⟩ := ht.cl
  have hj := ht.job
  have hv := hj.valid
  have hn5 := hj.n1
  have hCo := h.fine.good.ok.client i C hC
  have hal : F.alive t.client = C.alive := by unfold Fab.alive; rw [ht.client, cl_nat hC]
  have hwt : F.waiting t.client = C.waiting := by unfold Fab.waiting; rw [ht.client, cl_nat hC]
  unfold turn
  by_cases hgd : t.over = true ∨ F.alive t.client = false ∨ 0 < F.waiting t.client
  · rw [if_pos hgd]
    exact ⟨g, .refl g, fun _ _ => rfl, h, ht, rfl, fun _ _ => rfl⟩
  rw [if_neg hgd]
  have hov : t.over = false := by cases ho : t.over with | false => rfl | true => exact absurd (.inl ho) hgd
  have hca : C.alive = true := by
    cases ha : C.alive with
    | true => rfl
    | false => exact absurd (.inr (.inl (by rw [hal, ha]))) hgd
  have hcw : C.waiting = 0 := by
    have : ¬ 0 < C.waiting := fun hw => hgd (.inr (.inr (by rw [hwt]; exact hw)))
    omega
  have hS : Stg n g t.job C t.got := by
    rcases hst with ⟨h1, _⟩ | ⟨_, h1⟩
    · rw [hov] at h1; cases h1
    · exact h1 hca
  -- a batch that is complete
  have htake : ∀ ds, C.batch = some ds → F.take t.client = (some ds, F.setC i { C with batch := none }) ∧ PI n g (F.setC i { C with batch := none }) := by
    intro ds hb
    have e : F.take t.client = (some ds, F.setC i { C with batch := none }) := by
      unfold Fab.take
      rw [ht.client, cl_nat hC]
      dsimp only
      rw [if_neg (by rw [hca]; simp), hb]
      dsimp only
      rw [if_neg (by omega)]
    refine ⟨e, h.setC hC ?_ fun l hl v hv => h.verb l.pair (.lane C l (List.mem_of_getElem? hC) hl rfl) v hv⟩
    have := h.fine.take t.client
    rw [e] at this
    exact this
  have hoth : ∀ D E : Comp, ∀ c, c ≠ i → ((F.setC i D).setC i E).clients[c]? = F.clients[c]? := fun D E c hc => by rw [setC_other hc, setC_other hc]
  generalize hgot : t.got = G at hS
  cases hS with
  | start hb hval =>
    have e : F.take t.client = (none, F) := by
      unfold Fab.take
      rw [ht.client, cl_nat hC]
      dsimp only
      rw [if_neg (by rw [hca]; simp), hb]
    rw [e]
    show ∃ g', Turned n g F i t g' (tailP F t).1 (tailP F t).2
    have hrl : (readAsk t.job).length = n := by rw [readAsk_len, hj.nodes]; simp
    obtain ⟨ds, q1, q2, q3, q4⟩ := tail_post h hn5.2 ht.client (by rw [hgot]; simp) (by rw [hgot]; exact p1 hv) hC hca hb (by omega) (by omega) (read_vi hj)
    rw [q1]
    refine ⟨g, .refl g, fun _ _ => rfl, q3, ⟨hj, ht.client, ht.bad, _, setC_self hC, .inr ⟨q2, fun _ => ?_⟩⟩, rfl, fun c hc => setC_other hc⟩
    show Stg n g t.job _ t.got
    rw [hgot]
    exact .read ds q4 hval
  | read ds hB hval =>
    obtain ⟨e, hP1⟩ := htake ds hB.batch
    rw [e]
    have hC1 : (F.setC i { C with batch := none }).clients[i]? = some { C with batch := none } := setC_self hC
    generalize ht1 : t.fed (some ds) = t1
    have hg1 : t1.got = [ds] := by rw [← ht1]; show t.got ++ [ds] = [ds]; rw [hgot]; rfl
    have hj1 : t1.job = t.job := by rw [← ht1]; rfl
    have hc1 : t1.client = i := by rw [← ht1]; exact ht.client
    have hb1 : t1.bad = false := by rw [← ht1]; exact ht.bad
    show ∃ g', Turned n g F i t g' (tailP (F.setC i { C with batch := none }) t1).1 (tailP (F.setC i { C with batch := none }) t1).2
    rcases stage1 hv ds with ⟨o, h1, h2⟩ | ⟨g0, K, hS1, h1⟩
    · obtain ⟨q1, q2, q3, q4⟩ := tail_over (F := F.setC i { C with batch := none }) (t := t1) (o := o) (by rw [hg1]; simp) (by rw [hg1, hj1]; exact h1)
      rw [q1]
      exact ⟨g, .refl g, fun _ _ => rfl, hP1, ⟨by show Jb n i t1.job; rw [hj1]; exact hj, hc1, hb1, _, hC1, .inl ⟨q2, fun hc => absurd (q3.symm.trans hc) h2⟩⟩, rfl, fun c hc => setC_other hc⟩
    · have hKr : ∀ x ∈ K, 0 ≤ x.node ∧ x.node < n := fun x hx => by have := (hS1.rng x hx).1; have := hj.nodes; omega
      have hKl := srt_len hS1.srt hKr
      have hKm := hS1.maj
      have hm := maj_pos hv
      obtain ⟨ds', q1, q2, q3, q4⟩ := tail_post hP1 hn5.2 hc1 (t := t1) (by rw [hg1]; simp) (by rw [hg1, hj1]; exact h1) hC1 hca rfl (by simp only [swapAsk, List.length_map]; omega) (by simp only [swapAsk, List.length_map]; omega) (prom_vi hj hS1.rng)
      rw [q1]
      refine ⟨g, .refl g, fun _ _ => rfl, q3, ⟨by show Jb n i t1.job; rw [hj1]; exact hj, hc1, hb1, _, setC_self hC1, .inr ⟨q2, fun _ => ?_⟩⟩, rfl, hoth _ _⟩
      show Stg n g t1.job _ t1.got
      rw [hg1, hj1]
      exact .prom ds g0 K ds' hS1 q4 hval
  | prom d1 g0 K ds hS1 hB hval =>
    obtain ⟨e, hP1⟩ := htake ds hB.batch
    rw [e]
    have hC1 : (F.setC i { C with batch := none }).clients[i]? = some { C with batch := none } := setC_self hC
    generalize ht1 : t.fed (some ds) = t1
    have hg1 : t1.got = [d1, ds] := by rw [← ht1]; show t.got ++ [ds] = _; rw [hgot]; rfl
    have hj1 : t1.job = t.job := by rw [← ht1]; rfl
    have hc1 : t1.client = i := by rw [← ht1]; exact ht.client
    have hb1 : t1.bad = false := by rw [← ht1]; exact ht.bad
    show ∃ g', Turned n g F i t g' (tailP (F.setC i { C with batch := none }) t1).1 (tailP (F.setC i { C with batch := none }) t1).2
    rcases stage2 hv hS1 ds with ⟨o, h1, h2⟩ | ⟨g1, P, hS2, h1⟩
    · obtain ⟨q1, q2, q3, q4⟩ := tail_over (F := F.setC i { C with batch := none }) (t := t1) (o := o) (by rw [hg1]; simp) (by rw [hg1, hj1]; exact h1)
      rw [q1]
      exact ⟨g, .refl g, fun _ _ => rfl, hP1, ⟨by show Jb n i t1.job; rw [hj1]; exact hj, hc1, hb1, _, hC1, .inl ⟨q2, fun hc => absurd (q3.symm.trans hc) h2⟩⟩, rfl, fun c hc => setC_other hc⟩
    · have hbal := hj.bal
      have hKr : ∀ x ∈ K, 0 ≤ x.node ∧ x.node < n := fun x hx => by have := (hS1.rng x hx).1; have := hj.nodes; omega
      have hall := hB.all hCo hcw
      -- the promises
      have hPr : ∀ y ∈ P, (0 ≤ y.node ∧ y.node < n) ∧ cwP y.word = bal t.job ∧ Pr g y.node.toNat (bal t.job) y.word := by
        intro y hy
        obtain ⟨k, x, d, a1, a2, a3, a4, rfl⟩ := hS2.src y hy
        have hx := hS1.rng x (List.mem_of_getElem? a1)
        have hr := hall k _ d (swapAsk_get a1) a2 rfl a3 a4
        have hcp : cwP (promiseW (bal t.job) x.word) = bal t.job := by rw [promise_is hbal]; exact cwP_cw (cwA_in _) (cwV_in _)
        have hp : Pr g x.node.toNat (cwP (promiseW (bal t.job) x.word)) x.word := hr.1 (show cwP x.word < cwP (promiseW (bal t.job) x.word) by rw [hcp]; exact hx.2)
        rw [hcp] at hp
        have hsp := promise_split (b := bal t.job) (w := x.word) (by omega)
        exact ⟨hKr x (List.mem_of_getElem? a1), hcp, hp.prom, by rw [hsp.1]; exact hp.lt, by rw [hsp.1, hsp.2]; exact hp.cur, by rw [hsp.1]; exact hp.top⟩
      have hval3 : 100 ≤ t.job.value ∧ t.job.value < 104 := by have := hj.value; have := hj.lt; omega
      have hmaj : ∀ c, (∀ y ∈ P, cwA y.word ≤ c) → Maj n fun q => g.prom q (bal t.job) ∧ ∀ d v, g.acc q d v → d < bal t.job → d ≤ c := by
        intro c hcm
        refine Maj.of (m := 0) hS2.srt (fun y hy => (hPr y hy).1) (fun y hy => ⟨(hPr y hy).2.2.prom, fun d v ha hlt => ?_⟩) hn5.1 (by have := hS2.maj; rw [hj.nodes] at this; exact this)
        have := (hPr y hy).2.2.top d v ha hlt
        have := hcm y hy
        omega
      obtain ⟨c, hc0, hcb, hcv, hcm, hu⟩ : ∃ c, 0 ≤ c ∧ c < bal t.job ∧ (c = 0 ∨ g.val c = some (valueGo P t.job.value 0)) ∧ (∀ y ∈ P, cwA y.word ≤ c) ∧ 100 ≤ valueGo P t.job.value 0 ∧ valueGo P t.job.value 0 < 104 := by
        rcases valueGo_spec P t.job.value 0 with ⟨h3, h4⟩ | ⟨x, hx, h3, h4, h5⟩
        · exact ⟨0, Int.le_refl _, by omega, .inl rfl, h4, by rw [h3]; exact hval3⟩
        · have hp := (hPr x hx).2.2
          have hac : g.acc x.node.toNat (cwA x.word) (cwV x.word) := by
            rcases hp.cur with h6 | h6
            · omega
            · exact h6
          have hvl := h.ok.acc _ _ _ hac
          exact ⟨cwA x.word, by omega, hp.lt, .inr (by rw [h4]; exact hvl), h5, by rw [h4]; exact h.ok.val_in hvl⟩
      obtain ⟨hO', hle⟩ := h.ok.vote hval hu (by omega) hc0 hcb hcv (hmaj c hcm)
      generalize hg' : ({ g with val := fun x => if x = bal t.job then some (valueGo P t.job.value 0) else g.val x } : Gh) = g' at hO' hle
      have hvb : g'.val (bal t.job) = some (valueGo P t.job.value 0) := by rw [← hg']; show (if _ then _ else _) = _; rw [if_pos rfl]
      have hP1' : PI n g' (F.setC i { C with batch := none }) := by
        refine ⟨hP1.fine, hP1.lines, hP1.len, hO', fun q m hm => ?_, hP1.door, fun p hp v hv => ⟨(hP1.verb p hp v hv).1, (hP1.verb p hp v hv).2.mono hle.val⟩⟩
        have := hP1.node q m hm
        rw [← hg']
        exact ⟨this.lo, this.le, this.max, this.cur, this.top, this.prom⟩
      have hPl := srt_len hS2.srt (fun y hy => (hPr y hy).1)
      have hPm := hS2.maj
      have hm := maj_pos hv
      obtain ⟨ds', q1, q2, q3, q4⟩ := tail_post hP1' hn5.2 hc1 (t := t1) (by rw [hg1]; simp) (by rw [hg1, hj1]; exact h1) hC1 hca rfl (by simp only [swapAsk, List.length_map]; omega) (by simp only [swapAsk, List.length_map]; omega) (acc_vi hj (fun y hy => ⟨(hPr y hy).1, (hPr y hy).2.1⟩) hu hvb)
      rw [q1]
      refine ⟨g', hle, fun b hb => ?_, q3, ⟨by show Jb n i t1.job; rw [hj1]; exact hj, hc1, hb1, _, setC_self hC1, .inr ⟨q2, fun _ => ?_⟩⟩, rfl, hoth _ _⟩
      · rw [← hg']; show (if _ then _ else _) = _; rw [if_neg hb]
      · show Stg n g' t1.job _ t1.got
        rw [hg1, hj1]
        exact .acc d1 ds K g1 P ds' hS2 (fun y hy => ⟨(hPr y hy).1, (hPr y hy).2.1⟩) hvb q4
  | acc d1 d2 K g1 P ds hS2 hP hval hB =>
    obtain ⟨e, hP1⟩ := htake ds hB.batch
    rw [e]
    have hC1 : (F.setC i { C with batch := none }).clients[i]? = some { C with batch := none } := setC_self hC
    generalize ht1 : t.fed (some ds) = t1
    have hg1 : t1.got = [d1, d2, ds] := by rw [← ht1]; show t.got ++ [ds] = _; rw [hgot]; rfl
    have hj1 : t1.job = t.job := by rw [← ht1]; rfl
    have hc1 : t1.client = i := by rw [← ht1]; exact ht.client
    have hb1 : t1.bad = false := by rw [← ht1]; exact ht.bad
    show ∃ g', Turned n g F i t g' (tailP (F.setC i { C with batch := none }) t1).1 (tailP (F.setC i { C with batch := none }) t1).2
    obtain ⟨o, h1, h2⟩ := stage3 hv hS2 ds
    obtain ⟨q1, q2, q3, q4⟩ := tail_over (F := F.setC i { C with batch := none }) (t := t1) (o := o) (by rw [hg1]; simp) (by rw [hg1, hj1]; exact h1)
    rw [q1]
    refine ⟨g, .refl g, fun _ _ => rfl, hP1, ⟨by show Jb n i t1.job; rw [hj1]; exact hj, hc1, hb1, _, hC1, .inl ⟨q2, fun hc => ?_⟩⟩, rfl, fun c hc => setC_other hc⟩
    obtain ⟨h3, S, h4, h5, h6⟩ := h2 (q3.symm.trans hc)
    have hall := hB.all hCo hcw
    have hbal := hj.bal
    have hu := h.ok.val_in hval
    have hcw' : cwOf (bal t.job) (bal t.job) (valueGo P t.job.value 0) = cw (bal t.job) (bal t.job) (valueGo P t.job.value 0) := by unfold cwOf; rw [if_pos (by omega)]
    show Chosen n g (bal t1.told.job) t1.told.value
    rw [q4, h3]
    show Chosen n g (bal t1.job) _
    rw [hj1]
    refine Maj.of (m := 0) h4 (fun y hy => ?_) (fun y hy => ?_) hn5.1 (by rw [hj.nodes] at h5; exact h5)
    · obtain ⟨k, x, d, a1, a2, a3, a4, a5⟩ := h6 y hy
      rw [a5]
      exact (hP x (List.mem_of_getElem? a1)).1
    · obtain ⟨k, x, d, a1, a2, a3, a4, a5⟩ := h6 y hy
      have hr := hall k _ d (swapAsk_get a1) a2 rfl a3 a4
      have hx := (hP x (List.mem_of_getElem? a1)).2
      have h7 : g.acc x.node.toNat (cwP (cwOf (bal t.job) (bal t.job) (valueGo P t.job.value 0))) (cwV (cwOf (bal t.job) (bal t.job) (valueGo P t.job.value 0))) := hr.2 (show cwP x.word = cwP (cwOf (bal t.job) (bal t.job) (valueGo P t.job.value 0)) by rw [hcw', cwP_cw (by omega) (by omega)]; exact hx)
      rw [hcw', cwP_cw (by omega) (by omega), cwV_cw (by omega) (by omega)] at h7
      rw [a5]
      exact h7
end Go.Proofs.YteaknokogenndaaGreat
