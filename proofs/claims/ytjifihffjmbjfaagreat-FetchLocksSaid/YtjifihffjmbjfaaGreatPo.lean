/- Plain law: what sorting and compacting the owners gives is the list of those that occur. -/
import Derived.Lib.SlicesCompact
namespace Go.PureLocks
open Go.Lib

theorem sorted_ext : ∀ {l m : List Int}, l.Pairwise (· < ·) → m.Pairwise (· < ·) → (∀ x, x ∈ l ↔ x ∈ m) → l = m
  | [], [], _, _, _ => rfl
  | [], b :: m, _, _, h => absurd ((h b).2 List.mem_cons_self) (by simp)
  | a :: l, [], _, _, h => absurd ((h a).1 List.mem_cons_self) (by simp)
  | a :: l, b :: m, hl, hm, h => by
    rw [List.pairwise_cons] at hl hm
    have hab : a = b := by
      rcases List.mem_cons.1 ((h a).1 List.mem_cons_self) with e | e
      · exact e
      · rcases List.mem_cons.1 ((h b).2 List.mem_cons_self) with e' | e'
        · exact e'.symm
        · have h1 := hl.1 b e'
          have h2 := hm.1 a e
          omega
    subst hab
    refine congrArg _ (sorted_ext hl.2 hm.2 fun x => ⟨fun hx => ?_, fun hx => ?_⟩)
    · rcases List.mem_cons.1 ((h x).1 (List.mem_cons_of_mem _ hx)) with e | e
      · have := hl.1 x hx; omega
      · exact e
    · rcases List.mem_cons.1 ((h x).2 (List.mem_cons_of_mem _ hx)) with e | e
      · have := hm.1 x hx; omega
      · exact e

theorem get_bang {l : List Int} {i : Nat} (h : i < l.length) : l.toArray[i]! = l[i] := by
  rw [getElem!_pos l.toArray i (by simpa using h)]
  simp

theorem mem_compact {l : List Int} {x : Int} : x ∈ compact l ↔ x ∈ l := by
  unfold compact compactUpTo
  constructor
  · intro h
    obtain ⟨i, hi, rfl⟩ := List.mem_map.1 h
    have hlt := List.mem_range.1 (List.mem_filter.1 hi).1
    rw [get_bang hlt]
    exact List.getElem_mem hlt
  · intro h
    have key : ∀ i, i < l.length → l.toArray[i]! ∈ ((List.range l.length).filter (keeps l.toArray)).map (l.toArray[·]!) := by
      intro i
      induction i with
      | zero => intro hi; exact List.mem_map.2 ⟨0, List.mem_filter.2 ⟨List.mem_range.2 hi, by simp [keeps]⟩, rfl⟩
      | succ i ih =>
        intro hi
        by_cases hk : keeps l.toArray (i + 1) = true
        · exact List.mem_map.2 ⟨i + 1, List.mem_filter.2 ⟨List.mem_range.2 hi, hk⟩, rfl⟩
        · have he : l.toArray[i + 1]! = l.toArray[i]! := by
            simp [keeps] at hk
            simpa using hk
          rw [he]
          exact ih (by omega)
    obtain ⟨i, hi, rfl⟩ := List.getElem_of_mem h
    rw [← get_bang hi]
    exact key i hi

theorem compact_lt {l : List Int} (h : l.Pairwise (· ≤ ·)) : (compact l).Pairwise (· < ·) := by
  unfold compact compactUpTo
  rw [List.pairwise_map]
  have hr : (List.range l.length).Pairwise (· < ·) := List.pairwise_lt_range
  refine ((hr.filter (keeps l.toArray)).imp_of_mem fun {i j} hi hj hlt => ?_)
  have h1 := List.mem_range.1 (List.mem_filter.1 hi).1
  have h2 := List.mem_range.1 (List.mem_filter.1 hj).1
  have hk := (List.mem_filter.1 hj).2
  have hne : l.toArray[j]! ≠ l.toArray[j - 1]! := by
    unfold keeps at hk
    rcases of_decide_eq_true hk with hk | hk
    · omega
    · exact hk
  rw [get_bang h2, get_bang (by omega)] at hne
  rw [get_bang h1, get_bang h2]
  have mono : ∀ (a b : Nat) (ha : a < l.length) (hb : b < l.length), a ≤ b → l[a] ≤ l[b] := fun a b ha hb hab => by
    rcases Nat.lt_or_eq_of_le hab with h' | rfl
    · exact List.pairwise_iff_getElem.1 h a b ha hb h'
    · exact Int.le_refl _
  have a1 := mono i (j - 1) h1 (by omega) (by omega)
  have a2 := mono (j - 1) j (by omega) h2 (by omega)
  omega

def srt (l : List Int) : List Int := l.mergeSort fun x y => decide (x ≤ y)
theorem srt_le (l : List Int) : (srt l).Pairwise (· ≤ ·) := by
  have := List.pairwise_mergeSort (le := fun x y : Int => decide (x ≤ y)) (fun a b c h1 h2 => by simp at *; omega) (fun a b => by simp; omega) l
  exact this.imp fun h => by simpa using h

/-- The numbers of owners, as they come, of headers. -/
def ownl (hs : List Int) : List Int := (hs.filter fun h => decide (0 < h % 256)).map fun h => h % 256 - 1
/-- The owners from 0 up to m. -/
def rowl (hs : List Int) (m : Nat) : List Int := ((List.range m).filter fun k : Nat => hs.any fun h => decide (h % 256 = (k : Int) + 1)).map fun k : Nat => (k : Int)

theorem own_eq (hs : List Int) : compact (srt (ownl hs)) = rowl hs 255 := by
  refine sorted_ext (compact_lt (srt_le _)) ?_ fun x => ?_
  · unfold rowl
    rw [List.pairwise_map]
    have hr : (List.range 255).Pairwise (· < ·) := List.pairwise_lt_range
    exact (hr.filter _).imp fun h => by omega
  · rw [mem_compact]
    unfold srt ownl rowl
    rw [List.mem_mergeSort]
    simp only [List.mem_map, List.mem_filter, List.mem_range, List.any_eq_true, decide_eq_true_eq]
    constructor
    · rintro ⟨h, ⟨hh, hp⟩, rfl⟩
      have := Int.emod_lt_of_pos h (show (0 : Int) < 256 by omega)
      exact ⟨(h % 256 - 1).toNat, ⟨by omega, h, hh, by omega⟩, by omega⟩
    · rintro ⟨k, ⟨hk, h, hh, he⟩, rfl⟩
      exact ⟨h, ⟨hh, by omega⟩, by omega⟩
end Go.PureLocks
