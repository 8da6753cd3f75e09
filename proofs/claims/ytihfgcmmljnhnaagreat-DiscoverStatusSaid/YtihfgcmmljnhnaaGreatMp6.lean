/- Objects and blocks: what changes them. -/
import Derived.Test.YtihfgcmmljnhnaaGreatMp5
set_option linter.unusedVariables false
namespace Go.Mx
open Go.Eng

def mset (m : Mp) (o : Nat) (p : Nat × Nat) : Mp := fun k => if k = o then some p else m k
theorem mset_le {m : Mp} {o : Nat} {p : Nat × Nat} (h : m o = none) : Le m (mset m o p) := by
  intro k q hk
  unfold mset
  split
  · rename_i e; subst e; rw [h] at hk; cases hk
  · exact hk

theorem hlim : (16384 : Nat) = 4 ^ 7 := by decide

/-- The world's part of the relation, and that old blocks are as they were. -/
structure St (w0 : World) (m : Mp) (w : World) (H : Hp) : Prop where
  hr : HR m w0.heap.size w H
  new : New w0 w

/-- Behind an operation: a value and objects for which K holds. -/
def Af (w0 : World) (m : Mp) (H : Hp) (K : KV) (rv : Value) (w' : World) : Prop :=
  ∃ m' v H', Le m m' ∧ VR m' v rv ∧ St w0 m' w' H' ∧ Gh m m' H H' ∧ K v H'

section
variable {w0 : World} {m : Mp} {w w' : World} {H : Hp} {K : KV}

theorem newK_iff {b : Ob} {X : Nat → Hp → Prop} (h : newK H b X) : H.next ≤ 16383 ∧ X H.next ⟨H.next + 1, lset 7 H.t H.next b⟩ := by
  cases H with
  | mk x t =>
    obtain ⟨h1, h2⟩ := iff_t (show iff (Nat.ble x 16383) ((setC 7 x).go t b fun t => fN (Nat.succ x) fun y => X x ⟨y, t⟩) False from h)
    rw [setC_eq] at h2
    exact ⟨ble_le h1, fN_iff.1 h2⟩

theorem setOb_iff {ob : Nat} {b : Ob} {X : Hp → Prop} (h : setOb H ob b X) : X ⟨H.next, lset 7 H.t ob b⟩ := by
  cases H with
  | mk x t =>
    have h1 : (setC 7 ob).go t b (fun t => X ⟨x, t⟩) := h
    rw [setC_eq] at h1
    exact h1

/-- A new object, of a block of which no other one is. -/
theorem HR.add {B b N n dp : Nat} {d : Lv C dp} {cs : List Value} {T : TypeId} (h : HR m B w H) (hn : H.next ≤ 16383) (hk : Keep (fun k => k = b) w w') (hB : B ≤ b) (hblk : Blk w' b cs T) (hcl : cs.length = N) (hnN : n ≤ N) (hdp : n ≤ 4 ^ dp)
    (htr : TR m dp d 0 (cs.take n)) (hfree : ∀ o wr n dp d N, lget 7 H.t o = .ob wr n dp d → m o ≠ some (b, N)) : HR (mset m H.next (b, N)) B w' ⟨H.next + 1, lset 7 H.t H.next (.ob true n dp d)⟩ := by
  have hnone : m H.next = none := h.unm _ (Nat.le_refl _)
  have get : ∀ o, o < 16384 → lget 7 (lset 7 H.t H.next (.ob true n dp d)) o = if o = H.next then .ob true n dp d else lget 7 H.t o := fun o ho => lget_lset 7 _ _ _ _ (by rw [← hlim]; omega) (by rw [← hlim]; exact ho)
  have lt : ∀ {o p}, mset m H.next (b, N) o = some p → o < 16384 := by
    intro o p ho
    unfold mset at ho
    split at ho
    · omega
    · have := h.lt ho; omega
  have old : ∀ {o p}, mset m H.next (b, N) o = some p → o ≠ H.next → m o = some p := by
    intro o p ho hne
    unfold mset at ho
    rw [if_neg hne] at ho
    exact ho
  have new : ∀ {p}, mset m H.next (b, N) H.next = some p → p = (b, N) := by
    intro p hp
    unfold mset at hp
    rw [if_pos rfl] at hp
    simpa using hp.symm
  refine ⟨Nat.le_trans h.size hk.size, by show H.next + 1 ≤ 16384; omega, ?_, ?_, ?_, ?_, ?_⟩
  · intro o ho
    have ho : H.next + 1 ≤ o := ho
    unfold mset
    rw [if_neg (by omega)]
    exact h.unm o (by omega)
  · intro o ho hlt
    have ho : H.next + 1 ≤ o := ho
    show lget 7 (lset 7 H.t H.next (.ob true n dp d)) o = .dead
    rw [get o hlt, if_neg (by omega)]
    exact h.dead o (by omega) hlt
  · intro o b' N' ho
    by_cases hne : o = H.next
    · subst hne
      have := new ho
      simp only [Prod.mk.injEq] at this
      obtain ⟨rfl, rfl⟩ := this
      exact ⟨hB, hblk.lt⟩
    · obtain ⟨h1, h2⟩ := h.blk o b' N' (old ho hne)
      exact ⟨h1, Nat.lt_of_lt_of_le h2 hk.size⟩
  · intro o wr n' dp' d' b' N' hg ho
    have hg : lget 7 (lset 7 H.t H.next (.ob true n dp d)) o = .ob wr n' dp' d' := hg
    rw [get o (lt ho)] at hg
    by_cases hne : o = H.next
    · subst hne
      rw [if_pos rfl] at hg
      have := new ho
      simp only [Prod.mk.injEq] at this
      obtain ⟨rfl, rfl⟩ := this
      cases hg
      exact ⟨cs, T, hblk, hcl, hnN, hdp, htr.mono (mset_le hnone)⟩
    · rw [if_neg hne] at hg
      obtain ⟨cs', T', h1, h2, h3, h4, h5⟩ := h.ob o wr n' dp' d' b' N' hg (old ho hne)
      have hbb : b' ≠ b := by
        rintro rfl
        exact hfree o _ _ _ _ N' hg (old ho hne)
      exact ⟨cs', T', hk.blk h1 hbb, h2, h3, h4, h5.mono (mset_le hnone)⟩
  · intro o o' wr n' dp' d' wr' n'' dp'' d'' b' N' N'' hg hg' ho ho'
    have hg : lget 7 (lset 7 H.t H.next (.ob true n dp d)) o = .ob wr n' dp' d' := hg
    have hg' : lget 7 (lset 7 H.t H.next (.ob true n dp d)) o' = .ob wr' n'' dp'' d'' := hg'
    rw [get o (lt ho)] at hg
    rw [get o' (lt ho')] at hg'
    by_cases hne : o = H.next
    · by_cases hne' : o' = H.next
      · rw [hne, hne']
      · exfalso
        subst hne
        have := new ho
        simp only [Prod.mk.injEq] at this
        obtain ⟨rfl, rfl⟩ := this
        rw [if_neg hne'] at hg'
        exact hfree o' _ _ _ _ _ hg' (old ho' hne')
    · by_cases hne' : o' = H.next
      · exfalso
        subst hne'
        have := new ho'
        simp only [Prod.mk.injEq] at this
        obtain ⟨rfl, rfl⟩ := this
        rw [if_neg hne] at hg
        exact hfree o _ _ _ _ _ hg (old ho hne)
      · rw [if_neg hne] at hg
        rw [if_neg hne'] at hg'
        exact h.inj o o' _ _ _ _ _ _ _ _ _ _ _ hg hg' (old ho hne) (old ho' hne')

theorem add_gh {b : Ob} {p : Nat × Nat} (h : H.next ≤ 16383) : Gh m (mset m H.next p) H ⟨H.next + 1, lset 7 H.t H.next b⟩ := by
  refine ⟨Nat.le_succ _, fun o ho hn => ⟨?_, ?_⟩⟩
  · unfold mset; rw [if_neg (by omega)]; exact hn
  · show lget 7 (lset 7 H.t H.next b) o = _
    rw [lget_lset 7 _ _ _ _ (by rw [← hlim]; omega) (by rw [← hlim]; omega), if_neg (by omega)]

/-- An object's cells change. -/
theorem HR.put {B ob b N n dp n0 dp0 : Nat} {wr : Bool} {d : Lv C dp} {d0 : Lv C dp0} {cs : List Value} {T : TypeId} (h : HR m B w H) (hm : m ob = some (b, N)) (hg : lget 7 H.t ob = .ob wr n0 dp0 d0) (hk : Keep (fun k => k = b) w w') (hblk : Blk w' b cs T) (hcl : cs.length = N)
    (hnN : n ≤ N) (hdp : n ≤ 4 ^ dp) (htr : TR m dp d 0 (cs.take n)) : HR m B w' ⟨H.next, lset 7 H.t ob (.ob true n dp d)⟩ := by
  have hlt : ob < H.next := h.lt hm
  have hl := h.lim
  have get : ∀ o, o < 16384 → lget 7 (lset 7 H.t ob (.ob true n dp d)) o = if o = ob then .ob true n dp d else lget 7 H.t o := fun o ho => lget_lset 7 _ _ _ _ (by rw [← hlim]; omega) (by rw [← hlim]; exact ho)
  have lt : ∀ {o p}, m o = some p → o < 16384 := fun ho => by have := h.lt ho; omega
  refine ⟨Nat.le_trans h.size hk.size, hl, h.unm, ?_, ?_, ?_, ?_⟩
  · intro o ho hlt'
    have ho : H.next ≤ o := ho
    show lget 7 (lset 7 H.t ob (.ob true n dp d)) o = .dead
    rw [get o hlt', if_neg (by omega)]
    exact h.dead o ho hlt'
  · intro o b' N' ho
    obtain ⟨h1, h2⟩ := h.blk o b' N' ho
    exact ⟨h1, Nat.lt_of_lt_of_le h2 hk.size⟩
  · intro o wr' n' dp' d' b' N' hg' ho
    have hg' : lget 7 (lset 7 H.t ob (.ob true n dp d)) o = .ob wr' n' dp' d' := hg'
    rw [get o (lt ho)] at hg'
    by_cases hne : o = ob
    · subst hne
      rw [if_pos rfl] at hg'
      cases hg'
      rw [hm] at ho
      simp only [Option.some.injEq, Prod.mk.injEq] at ho
      obtain ⟨rfl, rfl⟩ := ho
      exact ⟨cs, T, hblk, hcl, hnN, hdp, htr⟩
    · rw [if_neg hne] at hg'
      obtain ⟨cs', T', h1, h2, h3, h4, h5⟩ := h.ob o wr' n' dp' d' b' N' hg' ho
      have hbb : b' ≠ b := by
        rintro rfl
        exact hne (h.inj o ob _ _ _ _ _ _ _ _ _ _ _ hg' hg ho hm)
      exact ⟨cs', T', hk.blk h1 hbb, h2, h3, h4, h5⟩
  · intro o o' wr1 n1 dp1 d1 wr2 n2 dp2 d2 b' N1 N2 hg1 hg2 ho ho'
    have key : ∀ {o wr n' dp' d' p}, lget 7 (lset 7 H.t ob (.ob true n dp d)) o = .ob wr n' dp' d' → m o = some p → ∃ wr n dp d, lget 7 H.t o = .ob wr n dp d := by
      intro o wr n' dp' d' p hg' ho
      rw [get o (lt ho)] at hg'
      by_cases hne : o = ob
      · subst hne; exact ⟨_, _, _, _, hg⟩
      · rw [if_neg hne] at hg'; exact ⟨_, _, _, _, hg'⟩
    obtain ⟨_, _, _, _, k1⟩ := key hg1 ho
    obtain ⟨_, _, _, _, k2⟩ := key hg2 ho'
    exact h.inj o o' _ _ _ _ _ _ _ _ _ _ _ k1 k2 ho ho'

theorem put_gh {ob : Nat} {b : Ob} {p : Nat × Nat} (h : HR m w0.heap.size w H) (hm : m ob = some p) : Gh m m H ⟨H.next, lset 7 H.t ob b⟩ := by
  have hlt := h.lt hm
  have hl := h.lim
  refine ⟨Nat.le_refl _, fun o ho hn => ⟨hn, ?_⟩⟩
  show lget 7 (lset 7 H.t ob b) o = _
  rw [lget_lset 7 _ _ _ _ (by rw [← hlim]; omega) (by rw [← hlim]; omega), if_neg (by rintro rfl; rw [hm] at hn; cases hn)]

/-- An object is given up. -/
theorem HR.kill {B ob : Nat} (h : HR m B w H) (hl : ob < H.next) : HR m B w ⟨H.next, lset 7 H.t ob .dead⟩ := by
  have hlim' := h.lim
  have get : ∀ o, o < 16384 → lget 7 (lset 7 H.t ob .dead) o = if o = ob then .dead else lget 7 H.t o := fun o ho => lget_lset 7 _ _ _ _ (by rw [← hlim]; omega) (by rw [← hlim]; exact ho)
  have key : ∀ {o wr n' dp' d' p}, lget 7 (lset 7 H.t ob .dead) o = .ob wr n' dp' d' → m o = some p → lget 7 H.t o = .ob wr n' dp' d' := by
    intro o wr n' dp' d' p hg' ho
    rw [get o (by have := h.lt ho; omega)] at hg'
    split at hg'
    · cases hg'
    · exact hg'
  refine ⟨h.size, hlim', h.unm, ?_, h.blk, ?_, ?_⟩
  · intro o ho hlt'
    have ho : H.next ≤ o := ho
    show lget 7 (lset 7 H.t ob .dead) o = .dead
    rw [get o hlt', if_neg (by omega)]
    exact h.dead o ho hlt'
  · intro o wr' n' dp' d' b' N' hg' ho
    exact h.ob o wr' n' dp' d' b' N' (key hg' ho) ho
  · intro o o' wr1 n1 dp1 d1 wr2 n2 dp2 d2 b' N1 N2 hg1 hg2 ho ho'
    exact h.inj o o' _ _ _ _ _ _ _ _ _ _ _ (key hg1 ho) (key hg2 ho') ho ho'
end
end Go.Mx
