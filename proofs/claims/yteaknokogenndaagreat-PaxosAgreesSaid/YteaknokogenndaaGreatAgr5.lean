/- The plain law behind PaxosAgrees: the whole run. -/
import Derived.Test.YteaknokogenndaaGreatAgr4
set_option linter.unusedVariables false
namespace Go.Proofs.YteaknokogenndaaGreat
open Go.Eng

def Ts (n : Nat) (g : Gh) (F : Fab) (ts : List Talk) : Prop := ∀ i t, ts[i]? = some t → TkI n g F i t

/-- Compute node 5 has done nothing. -/
def Last (F : Fab) : Prop := ∃ C, F.clients[5]? = some C ∧ C.alive = true ∧ C.batch = none ∧ C.inc = 1

theorem get_mid {α : Type} {pre ts : List α} {t t1 s : α} {i : Nat} (h : (pre ++ [t1] ++ ts)[i]? = some s) : (i = pre.length ∧ s = t1) ∨ (i ≠ pre.length ∧ (pre ++ t :: ts)[i]? = some s) := by
  have e : pre ++ [t1] ++ ts = (pre ++ t :: ts).set pre.length t1 := by simp
  rw [e] at h
  rcases get_set (by simp) h with ⟨h1, h2⟩ | ⟨h1, h2⟩
  · exact .inl ⟨h1.symm, h2⟩
  · exact .inr ⟨fun e => h1 e.symm, h2⟩

theorem turns_inv {n : Nat} : ∀ (ts pre : List Talk) (g : Gh) (F : Fab), PI n g F → Ts n g F (pre ++ ts) → ∃ g', PI n g' (turns F ts).1 ∧ Ts n g' (turns F ts).1 (pre ++ (turns F ts).2) ∧ (turns F ts).1.nodes = F.nodes ∧ (Last F → Last (turns F ts).1)
  | [], pre, g, F, h, ht => ⟨g, h, ht, rfl, fun h => h⟩
  | t :: ts, pre, g, F, h, ht => by
    have hti := ht pre.length t (by simp)
    obtain ⟨g1, T⟩ := turn_inv h hti
    have hTs : Ts n g1 (turn F t).1 ((pre ++ [(turn F t).2]) ++ ts) := by
      intro i s hs
      rcases get_mid (t := t) hs with ⟨rfl, rfl⟩ | ⟨hne, hs⟩
      · exact T.ti
      · have hsi := ht i s hs
        refine hsi.move T.le (T.val _ (hsi.job.ne hti.job hne)) fun C hC => ⟨C, by rw [T.others i hne]; exact hC, .inl (.refl T.le C)⟩
    obtain ⟨g', a1, a2, a3, a4⟩ := turns_inv ts (pre ++ [(turn F t).2]) g1 (turn F t).1 T.pi hTs
    refine ⟨g', a1, ?_, a3.trans T.nodes, fun hl => a4 ?_⟩
    · show Ts n g' (turns (turn F t).1 ts).1 (pre ++ (turn F t).2 :: (turns (turn F t).1 ts).2)
      simpa using a2
    · obtain ⟨C, c1, c2⟩ := hl
      have := hti.job.lt
      exact ⟨C, by rw [T.others 5 (by omega)]; exact c1, c2⟩

/-! ### Events -/

def Boot (k : Nat) (F : Fab) : Prop := ∀ m ∈ F.nodes, m.get 1 ≤ (k : Int)

theorem Boot.setN {k : Nat} {F : Fab} (h : Boot k F) (i : Nat) {f : NodeS → NodeS} (hf : ∀ m, m ∈ F.nodes → (f m).get 1 ≤ m.get 1 + 1) : Boot (k + 1) (F.setN i f) := by
  unfold Fab.setN
  split
  · intro m hm; have := h m hm; omega
  · rename_i x hx
    intro m hm
    rcases List.mem_or_eq_of_mem_set hm with hm | rfl
    · have := h m hm; omega
    · have h1 := hf x (List.mem_of_getElem? hx)
      have h2 := h x (List.mem_of_getElem? hx)
      omega

theorem back_boot {m : NodeS} (h : 10 < m.words.length) : (backN m).get 1 ≤ m.get 1 + 1 := by
  unfold backN NodeS.back
  split
  · have := nget_self (n := { m with down := false }) (a := 1) (w := m.get 1 + 1) (by show 1 < m.words.length; omega)
    rw [show NodeS.get { words := m.words.set 1 (m.get 1 + 1), down := false } 1 = m.get 1 + 1 from this]
    omega
  · show m.get 1 ≤ _; omega

structure DI (n k : Nat) (g : Gh) (F : Fab) (ts : List Talk) : Prop where
  pi : PI n g F
  ts : Ts n g F ts
  last : Last F
  boot : Boot k F

theorem setN_cl {F : Fab} {i : Nat} {f : NodeS → NodeS} : (F.setN i f).clients = F.clients := by
  unfold Fab.setN
  split <;> rfl

theorem DI.setN {n k : Nat} {g : Gh} {F : Fab} {ts : List Talk} (h : DI n k g F ts) (i : Nat) {f : NodeS → NodeS} (hl : ∀ m, (f m).words.length = m.words.length) (hg : ∀ m j, j ≠ 1 → (f m).get j = m.get j) (hf : ∀ m, m ∈ F.nodes → (f m).get 1 ≤ m.get 1 + 1) : DI n (k + 1) g (F.setN i f) ts := by
  refine ⟨h.pi.setN i hl hg, fun q t ht => (h.ts q t ht).move (.refl g) rfl fun C hC => ⟨C, by rw [setN_cl]; exact hC, .inl (.refl (.refl g) C)⟩, ?_, h.boot.setN i hf⟩
  unfold Last
  rw [setN_cl]
  exact h.last

theorem DI.wl {n k : Nat} {g : Gh} {F : Fab} {ts : List Talk} (h : DI n k g F ts) : ∀ m ∈ F.nodes, 10 < m.words.length := fun m hm => by
  have h1 := h.pi.fine.good.ok.words m hm
  have h2 := h.pi.lines
  omega

theorem Boot.up {k : Nat} {F : Fab} (h : Boot k F) : Boot (k + 1) F := fun m hm => by have := h m hm; omega

theorem DI.happen {n k : Nat} {g : Gh} {F : Fab} {ts : List Talk} (h : DI n k g F ts) {cs : List Int} (hcs : ∀ c ∈ cs, c ≠ 5) (e : Event) : DI n (k + 1) g (F.happen cs e) ts := by
  unfold Fab.happen
  split
  · split
    · exact ⟨h.pi, h.ts, h.last, h.boot.up⟩
    · have hne : cs.getD (e.a % (cs.length : Int)).toNat 0 ≠ 5 := by
        rw [List.getD_eq_getElem?_getD]
        cases hx : cs[(e.a % (cs.length : Int)).toNat]? with
        | none => simp
        | some x => exact hcs x (List.mem_of_getElem? hx)
      generalize cs.getD (e.a % (cs.length : Int)).toNat 0 = c at hne
      obtain ⟨h1, h2⟩ := h.pi.die c
      refine ⟨h1, fun i t ht => (h.ts i t ht).move (.refl g) rfl fun C hC => ?_, ?_, ?_⟩
      · obtain ⟨C', h3, h4⟩ := h2 i C hC
        refine ⟨C', h3, ?_⟩
        rcases h4 with rfl | h4
        · exact .inl (.refl (.refl g) _)
        · exact .inr h4.2
      · obtain ⟨C, c1, c2⟩ := h.last
        obtain ⟨C', h3, h4⟩ := h2 5 C c1
        rcases h4 with rfl | h4
        · exact ⟨_, h3, c2⟩
        · exact absurd h4.1 hne
      · have : (F.die c).2.nodes = F.nodes := by
          unfold Fab.die
          split
          · rfl
          · split <;> rfl
        intro m hm
        rw [this] at hm
        exact h.boot.up m hm
  · split
    · exact h.setN _ (fun _ => rfl) (fun _ _ _ => rfl) (fun m _ => by show m.get 1 ≤ _; omega)
    · split
      · exact h.setN _ backN_len back_get fun m hm => back_boot (h.wl m hm)
      · refine ⟨h.pi.drop _, fun i t ht => (h.ts i t ht).move (.refl g) rfl fun C hC => ⟨C, ?_, .inl (.refl (.refl g) C)⟩, ?_, ?_⟩
        · unfold Fab.drop; split <;> exact hC
        · unfold Last Fab.drop; split <;> exact h.last
        · unfold Boot Fab.drop; split <;> exact h.boot.up

def evL (n : Nat) : List Event → Nat
  | [] => 0
  | e :: es => (if e.at_ % 60 < n then 1 else 0) + evL n es
def evE (n : Nat) : List Event → Nat
  | [] => 0
  | e :: es => (if e.at_ % 60 = n then 1 else 0) + evE n es

theorem evL_succ (n : Nat) : ∀ es, evL (n + 1) es = evL n es + evE n es
  | [] => rfl
  | e :: es => by
    have ih := evL_succ n es
    unfold evL evE
    by_cases h1 : e.at_ % 60 < n
    · rw [if_pos h1, if_pos (by omega), if_neg (by omega)]; omega
    · by_cases h2 : e.at_ % 60 = n
      · rw [if_neg h1, if_pos (by omega), if_pos h2]; omega
      · rw [if_neg h1, if_neg (by omega), if_neg h2]; omega

theorem evL_le (n : Nat) : ∀ es, evL n es ≤ es.length
  | [] => Nat.le_refl _
  | e :: es => by
    have ih := evL_le n es
    unfold evL
    simp only [List.length_cons]
    split <;> omega

theorem DI.happens {n : Nat} {g : Gh} {ts : List Talk} {cs : List Int} (hcs : ∀ c ∈ cs, c ≠ 5) (q : Nat) : ∀ (es : List Event) (k : Nat) (F : Fab), DI n k g F ts → DI n (k + evE q es) g (happens F cs q es) ts
  | [], k, F, h => h
  | e :: es, k, F, h => by
    unfold Go.Proofs.YteaknokogenndaaGreat.happens evE
    by_cases he : e.at_ % 60 = q
    · rw [if_pos he, if_pos he]
      have := DI.happens hcs q es (k + 1) _ (h.happen hcs e)
      rw [show k + (1 + evE q es) = k + 1 + evE q es by omega]
      exact this
    · rw [if_neg he, if_neg he, Nat.zero_add]
      exact DI.happens hcs q es k F h

theorem DI.turns {n k : Nat} {g : Gh} {F : Fab} {ts : List Talk} (h : DI n k g F ts) : ∃ g', DI n k g' (turns F ts).1 (turns F ts).2 := by
  obtain ⟨g', a1, a2, a3, a4⟩ := turns_inv ts [] g F h.pi h.ts
  exact ⟨g', a1, a2, a4 h.last, by unfold Boot; rw [a3]; exact h.boot⟩

theorem Last.step {g g' : Gh} {F F' : Fab} (h : Last F) (hc : ∀ (c : Nat) (C : Comp), F.clients[c]? = some C → ∃ C', F'.clients[c]? = some C' ∧ CStep g g' C C') : Last F' := by
  obtain ⟨C, c1, c2, c3, c4⟩ := h
  obtain ⟨C', d1, d2⟩ := hc 5 C c1
  have := d2.none c3
  subst this
  exact ⟨_, d1, c2, c3, c4⟩

theorem Boot.same {k : Nat} {F F' : Fab} (h : Boot k F) (hs : SameN F F') : Boot k F' := by
  intro m hm
  obtain ⟨i, hi⟩ := List.mem_iff_getElem?.1 hm
  obtain ⟨x, h1, h2, _⟩ := hs i m hi
  rw [h2]
  exact h x (List.mem_of_getElem? h1)

theorem DI.step {n k : Nat} {g : Gh} {F : Fab} {ts : List Talk} (h : DI n k g F ts) (x : Choice) : ∃ g', DI n k g' (F.step x).2 ts ∧ g.le g' := by
  obtain ⟨g', a1, a2, a3, a4, a5⟩ := h.pi.step x
  refine ⟨g', ⟨a3, fun i t ht => (h.ts i t ht).move a1 (by rw [a2]) fun C hC => ?_, h.last.step a5, h.boot.same a4⟩, a1⟩
  obtain ⟨C', h1, h2⟩ := a5 i C hC
  exact ⟨C', h1, .inl h2⟩

theorem DI.rstep {n k : Nat} {g : Gh} {F : Fab} {ts : List Talk} (h : DI n k g F ts) (sch : List Int) (q : Nat) : ∃ g', DI n k g' (rstep F sch q).2 ts := by
  unfold Go.Proofs.YteaknokogenndaaGreat.rstep
  split
  · exact ⟨g, h⟩
  · obtain ⟨g', h1, _⟩ := h.step _
    exact ⟨g', h1⟩

theorem drive_inv {n : Nat} {cs sch : List Int} {es : List Event} (hcs : ∀ c ∈ cs, c ≠ 5) : ∀ (f q : Nat) (F : Fab) (ts : List Talk) (g : Gh), DI n (1 + evL q es) g F ts → ∃ g', DI n (1 + es.length) g' (driveGo cs sch es f q F ts).1 (driveGo cs sch es f q F ts).2
  | 0, q, F, ts, g, h => ⟨g, h.pi, h.ts, h.last, fun m hm => by have h1 := h.boot m hm; have h2 := evL_le q es; omega⟩
  | f + 1, q, F, ts, g, h => by
    have h1 := DI.happens hcs q es _ F h
    rw [show 1 + evL q es + evE q es = 1 + evL (q + 1) es by rw [evL_succ]; omega] at h1
    obtain ⟨g2, h2⟩ := h1.turns
    obtain ⟨g3, h3⟩ := h2.rstep sch q
    unfold driveGo
    split
    · exact drive_inv hcs f (q + 1) _ _ g3 h3
    · exact ⟨g3, h3.pi, h3.ts, h3.last, fun m hm => by have h4 := h3.boot m hm; have h5 := evL_le (q + 1) es; omega⟩

/-! ### The beginning -/

def aJob (n i : Nat) (r : Int) : Job := ⟨n, 2, i, r, 100 + i⟩
def aTalk (n i : Nat) (r : Int) : Talk := ⟨2, i, aJob n i r, [], false, false, 0, 0⟩
def propsFrom (n : Nat) : Nat → List Int → List Talk
  | _, [] => []
  | i, r :: rs => if i < 4 then aTalk n i (r % 4 + 1) :: propsFrom n (i + 1) rs else []

theorem props_get {n : Nat} : ∀ {rs : List Int} {i k : Nat} {t : Talk}, (propsFrom n i rs)[k]? = some t → i + k < 4 ∧ ∃ r, t = aTalk n (i + k) r ∧ 1 ≤ r ∧ r ≤ 4
  | [], i, k, t, h => by simp [propsFrom] at h
  | r :: rs, i, k, t, h => by
    unfold propsFrom at h
    split at h
    · cases k with
      | zero => simp at h; exact ⟨by omega, _, h.symm, by omega, by omega⟩
      | succ k =>
        obtain ⟨h1, h2⟩ := props_get (by simpa using h)
        rw [show i + (k + 1) = i + 1 + k by omega]
        exact ⟨h1, h2⟩
    · simp at h

def gh0 : Gh := ⟨fun _ _ _ => False, fun _ _ => False, fun _ => none⟩

theorem fmt_10 (n : Nat) : (n0 n).get 10 = 0 := by kernel_rfl

theorem agr_start {n : Nat} (hn : 1 ≤ n ∧ n ≤ 5) (rs : List Int) : DI n 1 gh0 (Fab.fresh n 6 98) (propsFrom n 0 rs) := by
  have hm : ∀ m ∈ (Fab.fresh n 6 98).nodes, m = n0 n := fun m hm => List.eq_of_mem_replicate hm
  have hq := fresh_quiet n 6 98
  refine ⟨⟨Fine.fresh hn (by omega) (by omega), rfl, List.length_replicate, ⟨fun _ _ _ h => h.elim, fun _ _ h => by cases h⟩, fun i m hi => ?_, fun m h c hc => by rw [hm m h]; exact fmt_door n hc, fun p hp v hv => ?_⟩, fun i t ht => ?_, ⟨bornC n 5, fresh_born (n := n) (c := 6) (lines := 98) (i := 5) (by omega), rfl, rfl, rfl⟩, fun m h => by rw [hm m h, fmt_1]; omega⟩
  · rw [hm m (List.mem_of_getElem? hi), fmt_10]
    exact ⟨by omega, by decide, by decide, .inl (by decide), fun _ _ h => h.elim, fun _ h => h.elim⟩
  · cases hp with
    | orph h => rw [hq.orph] at h; simp at h
    | lane C l hC hl e => have := hq.idle C hC l hl; rw [← e, this] at hv; simp at hv
  · obtain ⟨h1, r, rfl, h2, h3⟩ := props_get ht
    rw [Nat.zero_add] at h1 ⊢
    exact ⟨⟨rfl, rfl, rfl, ⟨h2, h3⟩, rfl, h1, hn⟩, rfl, rfl, bornC n i, fresh_born (n := n) (c := 6) (lines := 98) (i := i) (by omega), .inr ⟨rfl, fun _ => .start rfl rfl⟩⟩

/-- What the drive leaves. -/
theorem agr_drive {n : Nat} (hn : 1 ≤ n ∧ n ≤ 5) (rs sch : List Int) (es : List Event) (he : es.length ≤ 6) : ∃ g, DI n 7 g (drive (Fab.fresh n 6 98) (propsFrom n 0 rs) sch es 400).1 (drive (Fab.fresh n 6 98) (propsFrom n 0 rs) sch es 400).2 := by
  have hcs : ∀ c ∈ (propsFrom n 0 rs).map Talk.client, c ≠ 5 := by
    intro c hc
    obtain ⟨t, ht, rfl⟩ := List.mem_map.1 hc
    obtain ⟨i, hi⟩ := List.mem_iff_getElem?.1 ht
    obtain ⟨h1, r, rfl, _⟩ := props_get hi
    show ((0 + i : Nat) : Int) ≠ 5
    omega
  have h0 := agr_start hn rs
  have h1 : DI n (1 + evL 0 es) gh0 (Fab.fresh n 6 98) (propsFrom n 0 rs) := ⟨h0.pi, h0.ts, h0.last, fun m hm => by have := h0.boot m hm; omega⟩
  obtain ⟨g, h2⟩ := drive_inv (sch := sch) (es := es) hcs 400 0 _ _ _ h1
  unfold drive
  obtain ⟨g', h3⟩ := h2.turns
  exact ⟨g', h3.pi, h3.ts, h3.last, fun m hm => by have := h3.boot m hm; omega⟩

/-! ### The rest is executed -/

def meas (F : Fab) : Nat := (F.orphans.map fun p => p.verbs.length + 1).sum + (F.clients.map fun C => pend C.lanes).sum

theorem sum_erase {α : Type} (f : α → Nat) : ∀ {l : List α} {i : Nat} {x : α}, l[i]? = some x → ((l.eraseIdx i).map f).sum + f x = (l.map f).sum
  | [], i, x, h => by simp at h
  | a :: l, 0, x, h => by simp at h; subst h; simp; omega
  | a :: l, i + 1, x, h => by have := sum_erase f (l := l) (i := i) (by simpa using h); simp; omega

theorem sum_set {α : Type} (f : α → Nat) : ∀ {l : List α} {i : Nat} {x y : α}, l[i]? = some x → ((l.set i y).map f).sum + f x = (l.map f).sum + f y
  | [], i, x, y, h => by simp at h
  | a :: l, 0, x, y, h => by simp at h; subst h; simp; omega
  | a :: l, i + 1, x, y, h => by have := sum_set f (l := l) (i := i) (y := y) (by simpa using h); rw [List.set_cons_succ, List.map_cons, List.map_cons, List.sum_cons, List.sum_cons]; omega

theorem orphChoices_mem : ∀ {i : Nat} {ps : List Pair} {x : Choice}, x ∈ orphChoices i ps → ∃ k p, ps[k]? = some p ∧ x = ⟨((i + k : Nat) : Int), p.client, p.node⟩
  | _, [], x, h => by simp [orphChoices] at h
  | i, p :: ps, x, h => by
    unfold orphChoices at h
    rcases List.mem_cons.1 h with rfl | h
    · exact ⟨0, p, rfl, rfl⟩
    · obtain ⟨k, q, h1, h2⟩ := orphChoices_mem h
      exact ⟨k + 1, q, by simpa using h1, by rw [h2]; congr 2; omega⟩

theorem step_dec {n : Nat} {g : Gh} {F : Fab} (h : PI n g F) {x : Choice} (hx : x ∈ F.choices) : meas (F.step x).2 < meas F := by
  unfold Fab.choices at hx
  rcases List.mem_append.1 hx with hx | hx
  · obtain ⟨q, C, k, l, h1, h2, h3, rfl⟩ := compChoices_mem hx
    rw [Nat.zero_add]
    have hCm := List.mem_of_getElem? h1
    have hlm := List.mem_of_getElem? h2
    have hCo := h.fine.good.ok.client q C h1
    have hkn : k < F.nodes.length := by
      have h4 := lt_of_get h2
      have h5 := hCo.lanes
      split at h5 <;> omega
    have hnd : F.nodes[k]? = some F.nodes[k] := List.getElem?_eq_getElem hkn
    generalize F.nodes[k] = nd at hnd
    cases hvs : l.pair.verbs with
    | nil => rw [hvs] at h3; simp at h3
    | cons v vs =>
      obtain ⟨g', a1, a2, a3, a4, a5, a6, a7, a8, d, a9, a10⟩ := h.serve (.lane C l hCm hlm rfl) hvs (i := k) (hCo.lane k l h2).node hnd (h.fine.good.cl C hCm l hlm)
      have hst : (F.step ⟨-1, q, k⟩).2 = { F with nodes := F.nodes.set k (l.pair.step nd).2.1, clients := F.clients.set q (C.comes k l (l.pair.step nd).1 (l.pair.step nd).2.2) } := by
        unfold Fab.step
        rw [if_neg (show ¬ (0 : Int) ≤ -1 by decide), if_neg (show ¬ (-1 : Int) < -1 by decide)]
        dsimp only
        rw [cl_nat h1]
        dsimp only
        rw [if_neg (by omega), Int.toNat_natCast, h2, hnd]
        dsimp only
        rw [if_neg (by omega), Int.toNat_natCast]
      rw [hst, a7, a9]
      unfold meas
      dsimp only
      have hs := sum_set (fun C : Comp => pend C.lanes) (y := C.comes k l l.pair.done (some d)) h1
      have hp : pend (C.comes k l l.pair.done (some d)).lanes + l.pair.verbs.length = pend C.lanes + l.pair.done.verbs.length := by
        show pend (C.lanes.set k ⟨l.pair.done, l.places.tail⟩) + _ = _
        unfold pend
        exact sum_set (fun l : Lane => l.pair.verbs.length) (y := ⟨l.pair.done, l.places.tail⟩) h2
      rw [a8, hvs] at hp
      simp only [List.length_cons] at hp
      omega
  · obtain ⟨k, p, h1, rfl⟩ := orphChoices_mem hx
    rw [Nat.zero_add]
    have hpm := List.mem_of_getElem? h1
    obtain ⟨hp1, hp2, _⟩ := h.fine.good.ok.orphan p hpm
    have hnd : F.nodes[p.node.toNat]? = some F.nodes[p.node.toNat] := List.getElem?_eq_getElem (by omega)
    generalize F.nodes[p.node.toNat] = nd at hnd
    have hst : (F.step ⟨(k : Int), p.client, p.node⟩).2 = { F with nodes := F.nodes.set p.node.toNat (p.step nd).2.1, orphans := if (p.step nd).1.verbs.length = 0 then F.orphans.eraseIdx k else F.orphans.set k (p.step nd).1 } := by
      unfold Fab.step
      rw [if_pos (show (0 : Int) ≤ k by omega)]
      unfold Fab.stepOrphan
      dsimp only
      rw [Int.toNat_natCast, h1]
      dsimp only
      rw [hnd]
    rw [hst]
    unfold meas
    dsimp only
    cases hvs : p.verbs with
    | nil =>
      have e : p.step nd = (p, nd, none) := by unfold Pair.step; rw [hvs]
      rw [e]
      dsimp only
      rw [if_pos (by rw [hvs]; rfl)]
      have := sum_erase (fun p : Pair => p.verbs.length + 1) h1
      omega
    | cons v vs =>
      obtain ⟨g', a1, a2, a3, a4, a5, a6, a7, a8, d, a9, a10⟩ := h.serve (.orph hpm) hvs (i := p.node.toNat) (by omega) hnd (h.fine.good.or p hpm)
      rw [a7]
      by_cases hz : p.done.verbs.length = 0
      · rw [if_pos hz]
        have := sum_erase (fun p : Pair => p.verbs.length + 1) h1
        omega
      · rw [if_neg hz]
        have := sum_set (fun p : Pair => p.verbs.length + 1) (y := p.done) h1
        rw [a8, hvs] at this
        simp only [List.length_cons] at this
        omega

/-- What is kept while the rest is executed; all nodes ahead of k are up. -/
structure FI (n k : Nat) (g0 : Gh) (F : Fab) : Prop where
  ex : ∃ g, PI n g F ∧ ∀ b v, Chosen n g0 b v → Chosen n g b v
  last : Last F
  boot : ∀ (i : Nat) (m : NodeS), F.nodes[i]? = some m → m.get 1 ≤ 8 ∧ (k ≤ i → m.get 1 ≤ 7) ∧ (i < k → m.down = false)

theorem DI.fi {n : Nat} {g : Gh} {F : Fab} {ts : List Talk} (h : DI n 7 g F ts) : FI n 0 g F :=
  ⟨⟨g, h.pi, fun _ _ h => h⟩, h.last, fun i m hi => by have := h.boot m (List.mem_of_getElem? hi); exact ⟨by omega, fun _ => by omega, fun hk => by omega⟩⟩

theorem FI.back {n k : Nat} {g0 : Gh} {F : Fab} (h : FI n k g0 F) (hk : k < n) : FI n (k + 1) g0 (F.setN k backN) := by
  obtain ⟨⟨g, h1, h2⟩, h3, h4⟩ := h
  refine ⟨⟨g, h1.setN k backN_len back_get, h2⟩, by unfold Last; rw [setN_cl]; exact h3, fun i m hi => ?_⟩
  have hkl : k < F.nodes.length := by rw [h1.len]; exact hk
  have hx : F.nodes[k]? = some F.nodes[k] := List.getElem?_eq_getElem hkl
  generalize F.nodes[k] = x at hx
  rw [setN_some hx] at hi
  rcases get_set hkl hi with ⟨rfl, rfl⟩ | ⟨hne, hi⟩
  · obtain ⟨a1, a2, _⟩ := h4 k x hx
    have a2 := a2 (Nat.le_refl _)
    have hb := back_boot (h1.wlen hx)
    refine ⟨by omega, fun h => by omega, fun _ => ?_⟩
    unfold backN NodeS.back
    by_cases hc : x.down = true ∧ x.get 1 < 31
    · rw [if_pos hc]
    · rw [if_neg hc]
      show x.down = false
      cases hd : x.down with
      | false => rfl
      | true => exact absurd ⟨hd, by omega⟩ hc
  · obtain ⟨a1, a2, a3⟩ := h4 i m hi
    exact ⟨a1, fun h => a2 (by omega), fun h => a3 (by omega)⟩

theorem FI.step {n k : Nat} {g0 : Gh} {F : Fab} (h : FI n k g0 F) (x : Choice) : FI n k g0 (F.step x).2 := by
  obtain ⟨⟨g, h1, h2⟩, h3, h4⟩ := h
  obtain ⟨g', a1, a2, a3, a4, a5⟩ := h1.step x
  refine ⟨⟨g', a3, fun b v hc => (h2 b v hc).mono a1⟩, h3.step a5, fun i m hi => ?_⟩
  obtain ⟨x, b1, b2, b3⟩ := a4 i m hi
  rw [b2, b3]
  exact h4 i x b1

theorem quiet_of {F : Fab} (h : F.choices = []) : Quiet F := by
  have h1 : compChoices 0 F.clients = [] ∧ orphChoices 0 F.orphans = [] := by
    unfold Fab.choices at h
    exact List.append_eq_nil_iff.1 h
  refine ⟨?_, fun C hC l hl => ?_⟩
  · cases ho : F.orphans with
    | nil => rfl
    | cons p ps => rw [ho] at h1; simp [orphChoices] at h1
  · obtain ⟨q, hq⟩ := List.mem_iff_getElem?.1 hC
    obtain ⟨k, hk⟩ := List.mem_iff_getElem?.1 hl
    cases hv : l.pair.verbs with
    | nil => rfl
    | cons v vs => exact absurd h1.1 (compChoices_of hq hk (by rw [hv]; simp))

def lJob (n : Nat) : Job := ⟨n, 2, 5, 9, 999⟩
def lTalk (n : Nat) : Talk := ⟨2, 5, lJob n, [], false, false, 0, 0⟩

/-- The last proposer decides, and what was decided. -/
theorem agr_last {n : Nat} {g0 : Gh} {F : Fab} (hn : 1 ≤ n ∧ n ≤ 5) (h : FI n n g0 F) (hc : F.choices = []) : ∃ F' t', alone F (lTalk n) = (F', [t']) ∧ t'.over = true ∧ t'.bad = false ∧ t'.code = 0 ∧ ∀ b v, Chosen n g0 b v → t'.value = v := by
  obtain ⟨⟨g, h1, h2⟩, ⟨C, c1, c2, c3, c4⟩, h4⟩ := h
  have hlen := h1.len
  have hcalm : Calm 5 F C := ⟨h1.fine, quiet_of hc, c1, c2, c3⟩
  have hv : (lJob n).valid = 0 := by unfold Job.valid lJob; dsimp only; rw [if_neg (by omega), if_neg (by omega), if_neg (by omega), if_neg (by omega), if_neg (by omega)]
  obtain ⟨F', C', t', he⟩ := lone hcalm (by rw [h1.lines]; exact Nat.le_refl _) (t := lTalk n) rfl rfl rfl (j := lJob n) rfl (a := 10) hv (by rw [hlen]; rfl) (show regAt 1 16 2 = 10 by decide) (by omega) (b := 78) (show (78 : Int) = ballot 9 5 by decide) (fun m hm => by rw [h1.door m hm 5 (by omega), c4]; exact Int.le_refl _)
  have hup : ∀ m ∈ F.nodes, m.down = false := by
    intro m hm
    obtain ⟨i, hi⟩ := List.mem_iff_getElem?.1 hm
    exact (h4 i m hi).2.2 (by rw [← hlen]; exact lt_of_get hi)
  have hlow : ∀ (i : Nat) (m : NodeS), F.nodes[i]? = some m → cwP (m.get 10) < 78 := fun i m hi => by have := (h1.node i m hi).max; omega
  have hcnt : cnt (isCand 10 78) F.nodes = F.nodes.length := by
    unfold cnt
    rw [List.filter_eq_self.2 fun m hm => ?_]
    obtain ⟨i, hi⟩ := List.mem_iff_getElem?.1 hm
    unfold isCand
    rw [hup m hm]
    simpa using hlow i m hi
  have hcl : (candsOf 10 78 F.nodes).length = n := by rw [show (candsOf 10 78 F.nodes).length = cnt (isCand 10 78) F.nodes from cands_cnt 10 78 F.nodes 0, hcnt, hlen]
  have hul : n ≤ (upsFrom 10 0 F.nodes).length := by
    have : (candsOf 10 78 F.nodes).length ≤ (upsFrom 10 0 F.nodes).length := List.length_filter_le _ _
    omega
  have hmaj : majority (lJob n).nodes ≤ n := by show majority (n : Int) ≤ n; unfold majority; rw [if_neg (by omega)]; omega
  rcases he.out with ⟨k1, _⟩ | ⟨_, k1, _⟩ | ⟨k1, k2, k3, k4, _⟩
  · omega
  · omega
  · refine ⟨F', t', he.run, he.over, he.bad, k3, fun b v hch => ?_⟩
    have hch := h2 b v hch
    rw [k4]
    unfold valOf
    have hsp : ∀ w : Int, cwA (promiseW 78 w) = cwA w ∧ cwV (promiseW 78 w) = cwV w := fun w => promise_split (by omega)
    have hb1 := (h1.ok.safe b v (hch.val h1.ok)).2.2.1
    -- a node that accepted
    obtain ⟨i, hin, hacc, _⟩ := Maj.meet hch hch
    have hx : F.nodes[i]? = some F.nodes[i] := List.getElem?_eq_getElem (by omega)
    generalize F.nodes[i] = x at hx
    have hbx := (h1.node i x hx).top b v hacc
    have hxp : (⟨(i : Int), promiseW 78 (x.get 10)⟩ : Acc) ∈ promOf 10 78 F.nodes := List.mem_map.2 ⟨_, cands_of hx (hup x (List.mem_of_getElem? hx)) (hlow i x hx), rfl⟩
    rcases valueGo_spec (promOf 10 78 F.nodes) (lJob n).value 0 with ⟨_, q2⟩ | ⟨y, hy, q1, q2, q3⟩
    · have := q2 _ hxp
      have h5 : cwA (promiseW 78 (x.get 10)) ≤ 0 := this
      rw [(hsp _).1] at h5
      omega
    · rw [q2]
      have h5 : cwA (promiseW 78 (x.get 10)) ≤ cwA y.word := q3 _ hxp
      rw [(hsp _).1] at h5
      obtain ⟨a, ha, rfl⟩ := List.mem_map.1 hy
      obtain ⟨k, nd, e1, e2, e3, rfl⟩ := cands_mem ha
      have q1' : 0 < cwA (promiseW 78 (nd.get 10)) := q1
      have h5' : cwA (x.get 10) ≤ cwA (promiseW 78 (nd.get 10)) := h5
      show cwV (promiseW 78 (nd.get 10)) = v
      rw [(hsp _).1] at q1' h5'
      rw [(hsp _).2]
      rcases (h1.node k nd e1).cur with h6 | h6
      · omega
      · exact agree h1.ok hch (cwA (nd.get 10) - b).toNat _ _ (by omega) (by omega) (h1.ok.acc _ _ _ h6)
end Go.Proofs.YteaknokogenndaaGreat
