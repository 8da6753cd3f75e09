/- The plain law behind PaxosAgrees: promises and acceptances. -/
import Derived.Test.YteaknokogenndaaGreatStay
set_option linter.unusedVariables false
namespace Go.Proofs.YteaknokogenndaaGreat
open Go.Eng

/-! ### Majorities -/

theorem sorted_len : ∀ {l : List Int} {lo hi : Int}, l.Pairwise (· < ·) → (∀ x ∈ l, lo ≤ x ∧ x < hi) → lo ≤ hi → (l.length : Int) ≤ hi - lo
  | [], lo, hi, _, _, h => by simp; omega
  | a :: l, lo, hi, hp, hr, h => by
    obtain ⟨h1, h2⟩ := List.pairwise_cons.1 hp
    have ha := hr a List.mem_cons_self
    have := sorted_len (lo := a + 1) (hi := hi) h2 (fun x hx => ⟨by have := h1 x hx; omega, (hr x (List.mem_cons_of_mem _ hx)).2⟩) (by omega)
    simp only [List.length_cons]
    omega

theorem sorted_disj : ∀ (k : Nat) {l m : List Int} {lo hi : Int}, l.length + m.length ≤ k → l.Pairwise (· < ·) → m.Pairwise (· < ·) → (∀ x ∈ l, lo ≤ x ∧ x < hi) → (∀ x ∈ m, lo ≤ x ∧ x < hi) → lo ≤ hi → (∀ x ∈ l, x ∉ m) → (l.length + m.length : Int) ≤ hi - lo
  | _, [], m, lo, hi, _, _, h2, _, h4, h5, _ => by have := sorted_len h2 h4 h5; simp; omega
  | _, a :: l, [], lo, hi, _, h1, _, h3, _, h5, _ => by have := sorted_len h1 h3 h5; simp at this ⊢; omega
  | 0, a :: l, b :: m, lo, hi, hk, _, _, _, _, _, _ => by simp at hk
  | k + 1, a :: l, b :: m, lo, hi, hk, h1, h2, h3, h4, h5, h6 => by
    have ha := h3 a List.mem_cons_self
    have hb := h4 b List.mem_cons_self
    obtain ⟨p1, p2⟩ := List.pairwise_cons.1 h1
    obtain ⟨q1, q2⟩ := List.pairwise_cons.1 h2
    rcases Int.lt_trichotomy a b with hlt | he | hlt
    · have := sorted_disj k (l := l) (m := b :: m) (lo := a + 1) (hi := hi) (by simp at hk ⊢; omega) p2 h2 (fun x hx => ⟨by have := p1 x hx; omega, (h3 x (List.mem_cons_of_mem _ hx)).2⟩)
        (fun x hx => ⟨by rcases List.mem_cons.1 hx with rfl | hx; · omega
                         · have := q1 x hx; omega, (h4 x hx).2⟩) (by omega) (fun x hx => h6 x (List.mem_cons_of_mem _ hx))
      simp only [List.length_cons] at this ⊢
      omega
    · subst he; exact absurd List.mem_cons_self (h6 a List.mem_cons_self)
    · have := sorted_disj k (l := a :: l) (m := m) (lo := b + 1) (hi := hi) (by simp at hk ⊢; omega) h1 q2
        (fun x hx => ⟨by rcases List.mem_cons.1 hx with rfl | hx; · omega
                         · have := p1 x hx; omega, (h3 x hx).2⟩) (fun x hx => ⟨by have := q1 x hx; omega, (h4 x (List.mem_cons_of_mem _ hx)).2⟩) (by omega) (fun x hx hm => h6 x hx (List.mem_cons_of_mem _ hm))
      simp only [List.length_cons] at this ⊢
      omega

/-- A majority of n nodes has this. -/
def Maj (n : Nat) (Q : Nat → Prop) : Prop := ∃ l : List Int, l.Pairwise (· < ·) ∧ (∀ x ∈ l, (0 ≤ x ∧ x < n) ∧ Q x.toNat) ∧ n < 2 * l.length

theorem Maj.mono {n : Nat} {Q R : Nat → Prop} (h : Maj n Q) (hq : ∀ i, Q i → R i) : Maj n R :=
  let ⟨l, h1, h2, h3⟩ := h
  ⟨l, h1, fun x hx => ⟨(h2 x hx).1, hq _ (h2 x hx).2⟩, h3⟩

theorem Maj.meet {n : Nat} {Q R : Nat → Prop} (h : Maj n Q) (h' : Maj n R) : ∃ i, i < n ∧ Q i ∧ R i := by
  obtain ⟨l, h1, h2, h3⟩ := h
  obtain ⟨m, k1, k2, k3⟩ := h'
  by_cases hc : ∀ x ∈ l, x ∉ m
  · have := sorted_disj _ (Nat.le_refl _) h1 k1 (fun x hx => (h2 x hx).1) (fun x hx => (k2 x hx).1) (by omega) hc
    omega
  · obtain ⟨x, hx⟩ := Classical.not_forall.1 hc
    obtain ⟨hl, hm⟩ := Classical.not_imp.1 hx
    have hm := Classical.not_not.1 hm
    have := (h2 x hl).1
    exact ⟨x.toNat, by omega, (h2 x hl).2, (k2 x hm).2⟩

/-! ### What has happened -/

/-- Which node accepted what, which promised what, and which value a ballot has. -/
structure Gh where
  acc : Nat → Int → Int → Prop
  prom : Nat → Int → Prop
  val : Int → Option Int

structure Gh.le (g h : Gh) : Prop where
  acc : ∀ i b v, g.acc i b v → h.acc i b v
  prom : ∀ i b, g.prom i b → h.prom i b
  val : ∀ b v, g.val b = some v → h.val b = some v
  new : ∀ i b v, h.acc i b v → g.acc i b v ∨ ∀ c, g.prom i c → c ≤ b

theorem Gh.le.refl (g : Gh) : g.le g := ⟨fun _ _ _ h => h, fun _ _ h => h, fun _ _ h => h, fun _ _ _ h => .inl h⟩

structure GOk (n : Nat) (g : Gh) : Prop where
  acc : ∀ i b v, g.acc i b v → g.val b = some v
  safe : ∀ b v, g.val b = some v → 100 ≤ v ∧ v < 104 ∧ 1 ≤ b ∧ ∃ c, 0 ≤ c ∧ c < b ∧ (c = 0 ∨ g.val c = some v) ∧ Maj n fun i => g.prom i b ∧ ∀ d u, g.acc i d u → d < b → d ≤ c

def Chosen (n : Nat) (g : Gh) (b v : Int) : Prop := Maj n fun i => g.acc i b v

theorem Chosen.mono {n : Nat} {g h : Gh} {b v : Int} (hc : Chosen n g b v) (hl : g.le h) : Chosen n h b v := Maj.mono hc fun i hi => hl.acc i b v hi

theorem Chosen.val {n : Nat} {g : Gh} {b v : Int} (hc : Chosen n g b v) (h : GOk n g) : g.val b = some v := by
  obtain ⟨i, _, hi, _⟩ := Maj.meet hc hc
  exact h.acc i b v hi

/-- The majority argument. -/
theorem agree {n : Nat} {g : Gh} (h : GOk n g) {b v : Int} (hc : Chosen n g b v) : ∀ (k : Nat) (c u : Int), c ≤ b + k → b ≤ c → g.val c = some u → u = v
  | 0, c, u, h1, h2, h3 => by
    have : c = b := by omega
    subst this
    rw [hc.val h] at h3
    cases h3
    rfl
  | k + 1, c, u, h1, h2, h3 => by
    by_cases he : c = b
    · exact agree h hc 0 c u (by omega) h2 h3
    · obtain ⟨_, _, _, d, h4, h5, h6, h7⟩ := h.safe c u h3
      obtain ⟨i, _, hi1, hi2, hi3⟩ := Maj.meet hc h7
      have hbd := hi3 b v hi1 (by omega)
      have hb1 := (h.safe b v (h.acc i b v hi1)).2.2.1
      rcases h6 with h6 | h6
      · omega
      · exact agree h hc k d u (by omega) hbd h6

theorem chosen_eq {n : Nat} {g : Gh} (h : GOk n g) {b v c u : Int} (h1 : Chosen n g b v) (h2 : Chosen n g c u) : u = v := by
  rcases Int.le_total b c with hle | hle
  · exact agree h h1 (c - b).toNat c u (by omega) hle (h2.val h)
  · exact (agree h h2 (b - c).toNat b v (by omega) hle (h1.val h)).symm

/-! ### Words, verbs, replies -/

structure NI (g : Gh) (i : Nat) (w : Int) : Prop where
  lo : 0 ≤ w
  le : cwA w ≤ cwP w
  max : cwP w ≤ 40
  cur : cwA w = 0 ∨ g.acc i (cwA w) (cwV w)
  top : ∀ b v, g.acc i b v → b ≤ cwA w
  prom : ∀ b, g.prom i b → b ≤ cwP w

inductive VI (g : Gh) (v : Verb) : Prop
  | rd (i : Int) (e : v = rdVerb i 10)
  | prom (i old b : Int) (e : v = casVerb i 10 old (promiseW b old)) (h : cwP old < b) (hb : 1 ≤ b ∧ b ≤ 40)
  | acc (i old b u : Int) (e : v = casVerb i 10 old (cw b b u)) (h : cwP old = b) (hb : 1 ≤ b ∧ b ≤ 40) (hv : g.val b = some u)

/-- This node has promised ballot b when its word was w. -/
structure Pr (g : Gh) (i : Nat) (b w : Int) : Prop where
  prom : g.prom i b
  lt : cwA w < b
  cur : cwA w = 0 ∨ g.acc i (cwA w) (cwV w)
  top : ∀ c u, g.acc i c u → c < b → c ≤ cwA w

def Rep (g : Gh) (v : Verb) (d : Done) : Prop := v.kind = 3 → d.code = 0 → wordOf d = v.old →
  (cwP v.old < cwP v.new → Pr g v.node.toNat (cwP v.new) v.old) ∧ (cwP v.old = cwP v.new → g.acc v.node.toNat (cwP v.new) (cwV v.new))

theorem Pr.mono {g h : Gh} {i : Nat} {b w : Int} (hp : Pr g i b w) (hl : g.le h) : Pr h i b w :=
  ⟨hl.prom _ _ hp.prom, hp.lt, hp.cur.imp id (hl.acc _ _ _), fun c u hc hlt => by
    rcases hl.new i c u hc with h1 | h1
    · exact hp.top c u h1 hlt
    · have := h1 b hp.prom; omega⟩

theorem Rep.mono {g h : Gh} {v : Verb} {d : Done} (hp : Rep g v d) (hl : g.le h) : Rep h v d := fun a b c =>
  ⟨fun e => ((hp a b c).1 e).mono hl, fun e => hl.acc _ _ _ ((hp a b c).2 e)⟩

theorem VI.mono {g h : Gh} {v : Verb} (hp : VI g v) (hl : ∀ b u, g.val b = some u → h.val b = some u) : VI h v := by
  cases hp with
  | rd i e => exact .rd i e
  | prom i old b e h hb => exact .prom i old b e h hb
  | acc i old b u e h hb hv => exact .acc i old b u e h hb (hl _ _ hv)

theorem VI.single {g : Gh} {v : Verb} (h : VI g v) : Single v := by
  cases h with
  | rd i e => subst e; exact single_of rfl
  | prom i old b e h hb => subst e; exact single_of rfl
  | acc i old b u e h hb hv => subst e; exact single_of rfl

theorem GOk.val_in {n : Nat} {g : Gh} (h : GOk n g) {b v : Int} (hv : g.val b = some v) : 100 ≤ v ∧ v < 104 := ⟨(h.safe b v hv).1, (h.safe b v hv).2.1⟩

theorem promise_is {b old : Int} (hb : 1 ≤ b ∧ b ≤ 40) : promiseW b old = cw b (cwA old) (cwV old) := by
  have h1 := cwA_in old
  have h2 := cwV_in old
  unfold promiseW cwOf
  rw [if_pos (by omega)]

def NIs (g : Gh) (N : List NodeS) : Prop := ∀ i m, N[i]? = some m → NI g i (m.get 10)

/-- A promise. -/
theorem prom_step {n : Nat} {g : Gh} {N : List NodeS} {i : Nat} {m : NodeS} {b : Int} (hO : GOk n g) (hN : NIs g N) (hi : N[i]? = some m) (hl : 10 < m.words.length) (hlt : cwP (m.get 10) < b) (hb : 1 ≤ b ∧ b ≤ 40) :
    ∃ g' : Gh, g.le g' ∧ g'.val = g.val ∧ GOk n g' ∧ NIs g' (N.set i { m with words := m.words.set 10 (promiseW b (m.get 10)) }) ∧ Pr g' i b (m.get 10) := by
  have hm := hN i m hi
  have hle : g.le { g with prom := fun j c => g.prom j c ∨ (j = i ∧ c = b) } := ⟨fun _ _ _ h => h, fun _ _ h => .inl h, fun _ _ h => h, fun _ _ _ h => .inl h⟩
  refine ⟨{ g with prom := fun j c => g.prom j c ∨ (j = i ∧ c = b) }, hle, rfl, ⟨hO.acc, fun c v hv => ?_⟩, ?_, ⟨.inr ⟨rfl, rfl⟩, by have := hm.le; omega, hm.cur, fun c u hc _ => hm.top c u hc⟩⟩
  · obtain ⟨h1, h2, h3, d, h4, h5, h6, h7⟩ := hO.safe c v hv
    exact ⟨h1, h2, h3, d, h4, h5, h6, h7.mono fun j hj => ⟨.inl hj.1, hj.2⟩⟩
  · intro j x hx
    rcases get_set (lt_of_get hi) hx with ⟨rfl, rfl⟩ | ⟨hne, hx⟩
    · rw [nget_self hl, promise_is hb]
      have h1 := cwA_in (m.get 10)
      have h2 := cwV_in (m.get 10)
      refine ⟨by unfold cw; omega, ?_, ?_, ?_, ?_, ?_⟩
      · rw [cwA_cw h1 h2, cwP_cw h1 h2]; have := hm.le; omega
      · rw [cwP_cw h1 h2]; exact hb.2
      · rw [cwA_cw h1 h2, cwV_cw h1 h2]; exact hm.cur
      · rw [cwA_cw h1 h2]; exact hm.top
      · rw [cwP_cw h1 h2]
        rintro c (hc | ⟨_, rfl⟩)
        · have := hm.prom c hc; omega
        · exact Int.le_refl _
    · have hj := hN j x hx
      exact ⟨hj.lo, hj.le, hj.max, hj.cur, hj.top, fun c hc => hc.elim (hj.prom c) fun e => absurd e.1 (fun e => hne e.symm)⟩

/-- An acceptance. -/
theorem acc_step {n : Nat} {g : Gh} {N : List NodeS} {i : Nat} {m : NodeS} {b u : Int} (hO : GOk n g) (hN : NIs g N) (hi : N[i]? = some m) (hl : 10 < m.words.length) (hlt : cwP (m.get 10) = b) (hb : 1 ≤ b ∧ b ≤ 40) (hu : g.val b = some u) :
    ∃ g' : Gh, g.le g' ∧ g'.val = g.val ∧ GOk n g' ∧ NIs g' (N.set i { m with words := m.words.set 10 (cw b b u) }) ∧ g'.acc i b u := by
  have hm := hN i m hi
  have hu2 := hO.val_in hu
  have hnew : ∀ j c v, (g.acc j c v ∨ (j = i ∧ c = b ∧ v = u)) → g.acc j c v ∨ ∀ d, g.prom j d → d ≤ c := by
    rintro j c v (h | ⟨rfl, rfl, rfl⟩)
    · exact .inl h
    · exact .inr fun d hd => by have := hm.prom d hd; omega
  have hle : g.le { g with acc := fun j c v => g.acc j c v ∨ (j = i ∧ c = b ∧ v = u) } := ⟨fun _ _ _ h => .inl h, fun _ _ h => h, fun _ _ h => h, hnew⟩
  refine ⟨{ g with acc := fun j c v => g.acc j c v ∨ (j = i ∧ c = b ∧ v = u) }, hle, rfl, ⟨?_, fun c v hv => ?_⟩, ?_, .inr ⟨rfl, rfl, rfl⟩⟩
  · rintro j c v (h | ⟨rfl, rfl, rfl⟩)
    · exact hO.acc j c v h
    · exact hu
  · obtain ⟨h1, h2, h3, d, h4, h5, h6, h7⟩ := hO.safe c v hv
    refine ⟨h1, h2, h3, d, h4, h5, h6, h7.mono fun j hj => ⟨hj.1, fun e v' he hlt' => ?_⟩⟩
    rcases hnew j e v' he with h8 | h8
    · exact hj.2 e v' h8 hlt'
    · have := h8 c hj.1; omega
  · intro j x hx
    rcases get_set (lt_of_get hi) hx with ⟨rfl, rfl⟩ | ⟨hne, hx⟩
    · have e1 : cwP (cw b b u) = b := cwP_cw (by omega) (by omega)
      have e2 : cwA (cw b b u) = b := cwA_cw (by omega) (by omega)
      have e3 : cwV (cw b b u) = u := cwV_cw (by omega) (by omega)
      rw [nget_self hl]
      refine ⟨by unfold cw; omega, by rw [e1, e2]; exact Int.le_refl _, by rw [e1]; exact hb.2, ?_, ?_, ?_⟩
      · rw [e2, e3]; exact .inr (.inr ⟨rfl, rfl, rfl⟩)
      · rw [e2]
        rintro c v (hc | ⟨_, rfl, _⟩)
        · have := hm.top c v hc; have := hm.le; omega
        · exact Int.le_refl _
      · rw [e1]
        intro c hc
        have := hm.prom c hc
        omega
    · have hj := hN j x hx
      exact ⟨hj.lo, hj.le, hj.max, hj.cur.imp id .inl, fun c v hc => hc.elim (hj.top c v) fun e => absurd e.1 (fun e => hne e.symm), hj.prom⟩

/-- One verb is served. -/
theorem serve_step {n : Nat} {g : Gh} {N : List NodeS} {i : Nat} {m : NodeS} {v : Verb} (inc c : Int) (hO : GOk n g) (hN : NIs g N) (hi : N[i]? = some m) (hl : 10 < m.words.length) (hv : VI g v) (hvn : v.node = i) :
    ∃ g' : Gh, g.le g' ∧ g'.val = g.val ∧ GOk n g' ∧ NIs g' (N.set i (serve inc c v m).2) ∧ Rep g' v (serve inc c v m).1 ∧ (∀ k, k ≠ 10 → (serve inc c v m).2.get k = m.get k) ∧ (serve inc c v m).2.down = m.down := by
  have hself : N.set i m = N := by
    apply List.ext_getElem?
    intro k
    rw [List.getElem?_set]
    split
    · rename_i e; subst e; rw [if_pos (lt_of_get hi), hi]
    · rfl
  by_cases hr : refuse inc c v m ≠ 0
  · rw [serve_no hr]
    refine ⟨g, .refl g, rfl, hO, by rw [hself]; exact hN, fun _ h => absurd h hr, fun _ _ => rfl, rfl⟩
  rw [serve_ok (by simpa using hr)]
  cases hv with
  | rd i' e =>
    subst e
    exact ⟨g, .refl g, rfl, hO, by show NIs g (N.set i m); rw [hself]; exact hN, fun h => by simp [rdVerb] at h, fun _ _ => rfl, rfl⟩
  | prom i' old b e hp hb =>
    subst e
    have hi' : i'.toNat = i := by have : i' = i := hvn; omega
    have hex : (exec (casVerb i' 10 old (promiseW b old)) (10, 1) m) = (m.cas 10 old (promiseW b old), [m.get 10]) := rfl
    have hcp : cwP (promiseW b old) = b := by rw [promise_is hb]; exact cwP_cw (cwA_in _) (cwV_in _)
    show ∃ g', _ ∧ _ ∧ _ ∧ NIs g' (N.set i (exec (casVerb i' 10 old (promiseW b old)) (10, 1) m).1) ∧ Rep g' _ ⟨0, (exec (casVerb i' 10 old (promiseW b old)) (10, 1) m).2⟩ ∧ (∀ k, k ≠ 10 → (exec (casVerb i' 10 old (promiseW b old)) (10, 1) m).1.get k = m.get k) ∧ (exec (casVerb i' 10 old (promiseW b old)) (10, 1) m).1.down = m.down
    rw [hex]
    dsimp only
    unfold NodeS.cas
    by_cases ho : m.get (10 : Int).toNat = old
    · rw [if_pos ho]
      have ho' : m.get 10 = old := ho
      subst ho'
      obtain ⟨g', a1, a2, a3, a4, a5⟩ := prom_step hO hN hi hl hp hb
      refine ⟨g', a1, a2, a3, a4, fun _ _ _ => ⟨fun _ => ?_, fun e => ?_⟩, fun k hk => nget_ne (fun e => hk e.symm), rfl⟩
      · show Pr g' i'.toNat (cwP (promiseW b (m.get 10))) (m.get 10)
        rw [hi', hcp]
        exact a5
      · have : cwP (m.get 10) = cwP (promiseW b (m.get 10)) := e
        omega
    · rw [if_neg ho]
      exact ⟨g, .refl g, rfl, hO, by rw [hself]; exact hN, fun _ _ h => absurd h ho, fun _ _ => rfl, rfl⟩
  | acc i' old b u e hp hb hu =>
    subst e
    have hi' : i'.toNat = i := by have : i' = i := hvn; omega
    have hu2 := hO.val_in hu
    have e1 : cwP (cw b b u) = b := cwP_cw (by omega) (by omega)
    have e3 : cwV (cw b b u) = u := cwV_cw (by omega) (by omega)
    have hex : (exec (casVerb i' 10 old (cw b b u)) (10, 1) m) = (m.cas 10 old (cw b b u), [m.get 10]) := rfl
    show ∃ g', _ ∧ _ ∧ _ ∧ NIs g' (N.set i (exec (casVerb i' 10 old (cw b b u)) (10, 1) m).1) ∧ Rep g' _ ⟨0, (exec (casVerb i' 10 old (cw b b u)) (10, 1) m).2⟩ ∧ (∀ k, k ≠ 10 → (exec (casVerb i' 10 old (cw b b u)) (10, 1) m).1.get k = m.get k) ∧ (exec (casVerb i' 10 old (cw b b u)) (10, 1) m).1.down = m.down
    rw [hex]
    dsimp only
    unfold NodeS.cas
    by_cases ho : m.get (10 : Int).toNat = old
    · rw [if_pos ho]
      have ho' : m.get 10 = old := ho
      subst ho'
      obtain ⟨g', a1, a2, a3, a4, a5⟩ := acc_step hO hN hi hl hp hb hu
      refine ⟨g', a1, a2, a3, a4, fun _ _ _ => ⟨fun e => ?_, fun _ => ?_⟩, fun k hk => nget_ne (fun e => hk e.symm), rfl⟩
      · have : cwP (m.get 10) < cwP (cw b b u) := e
        omega
      · show g'.acc i'.toNat (cwP (cw b b u)) (cwV (cw b b u))
        rw [hi', e1, e3]
        exact a5
    · rw [if_neg ho]
      exact ⟨g, .refl g, rfl, hO, by rw [hself]; exact hN, fun _ _ h => absurd h ho, fun _ _ => rfl, rfl⟩
end Go.Proofs.YteaknokogenndaaGreat
