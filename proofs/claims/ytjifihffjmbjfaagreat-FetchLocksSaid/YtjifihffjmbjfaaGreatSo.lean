/- slices.Sort and slices.Compact at numbers, by the contracts of the library's shelf. -/
import Derived.Test.YtjifihffjmbjfaaGreatShelf
import Derived.Test.YtjifihffjmbjfaaGreatCO2
import Derived.Test.YtjifihffjmbjfaaGreatPo
set_option linter.unusedVariables false
namespace Go.Proofs.YtjifihffjmbjfaaGreat
open Go.Eng Go.PureLocks

theorem new_ahead (w : World) (n : Nat) : New w (Sort.ahead w n) := ⟨rfl, rfl, rfl, Nat.le_refl _, fun _ _ _ => rfl⟩

theorem new_grow (w : World) (os : Array Obj) : New w (Sort.grow w os) :=
  ⟨rfl, rfl, rfl, by simp, fun k hk _ => by
    show (w.heap ++ os)[k]? = _
    rw [Array.getElem?_append_left hk]⟩

theorem putRow_blk {w : World} {g e : Nat} {cur : List Value} {d : List Int} (h : Blk w g cur e) (hl : d.length ≤ cur.length) :
    Blk (Sort.putRow (Value.int .i64) w g 0 d.toArray) g (is d ++ cur.drop d.length) e ∧ Keep (fun k => k = g) w (Sort.putRow (Value.int .i64) w g 0 d.toArray) := by
  unfold Sort.putRow Sort.mapBlock
  constructor
  · unfold Blk at *
    show (w.heap.modify g _)[g]? = _
    rw [Array.getElem?_modify, if_pos rfl, h]
    simp only [Option.map_some, Sort.onCells, Option.some.injEq, Obj.cells.injEq, and_true]
    apply Array.ext_getElem?
    intro i
    unfold Sort.putCells
    rw [Array.getElem?_mapIdx, List.getElem?_toArray, List.getElem?_toArray]
    by_cases hi : i < d.length
    · rw [List.getElem?_append_left (by simp [is, hi])]
      have hc : i < cur.length := by omega
      simp [is, hi, hc]
    · rw [List.getElem?_append_right (by simp [is]; omega), List.getElem?_drop]
      have : d.length + (i - (is d).length) = i := by simp [is]; omega
      rw [this]
      simp [hi]
  · refine ⟨rfl, rfl, rfl, by simp, fun k _ hk => ?_⟩
    show (w.heap.modify g _)[k]? = _
    rw [Array.getElem?_modify, if_neg (fun e => hk e.symm)]

theorem holds_blk {w : World} {g e : Nat} {cur : List Value} {d : List Int} (h : Blk w g cur e) (ht : cur.take d.length = is d) : Sort.Holds (Value.int .i64) w g 0 d.toArray := by
  intro j hj
  have hj : j < d.length := by simpa using hj
  refine ⟨h.cell ?_, h.frozen⟩
  have h1 : (cur.take d.length)[j]? = (is d)[j]? := by rw [ht]
  rw [List.getElem?_take, if_pos hj] at h1
  rw [Nat.zero_add, h1]
  simp [is, hj]

theorem Sort_c {w : World} {a : Option Addr} {n c : Nat} {l : List Int} (h : Owns w 3 1 a n c (is l)) (hs : l.length < 1000000) : Does 104 [.slice a n c] w fun x w' => x = .tuple #[] ∧ Owns w' 3 1 a n c (is (srt l)) ∧ Keep (isB a) w w' := by
  have hn : l.length = n := by have := h.1; simp [is] at this; exact this
  rcases h.2 with ⟨rfl, h0, _⟩ | ⟨g, cur, rfl, hg, hnc, hcm, hcl, htk⟩
  · subst h0
    have hl : l = [] := List.eq_nil_of_length_eq_zero hn
    subst hl
    refine (Any.slices_Sort_int_none (Tryz.lays189) none c w).mono fun e w' ⟨he, hw⟩ => ⟨_, he, rfl, ?_, ?_⟩
    · subst hw; simpa [srt] using h
    · subst hw; exact Keep.refl _ _
  · subst hn
    have htk : cur.take l.length = is l := by simpa using htk
    refine (Any.slices_Sort_int (Tryz.lays189) g 0 c l w (holds_blk hg htk) hg.lt (by omega)).mono fun e w' ⟨he, k, os, hw⟩ => ⟨_, he, rfl, ?_⟩
    have hle : (srt l).length ≤ cur.length := by unfold srt; rw [List.length_mergeSort]; omega
    have h1 := new_ahead w k
    obtain ⟨hb, hk⟩ := putRow_blk (d := srt l) (New.blk h1 hg) hle
    have h2 := new_grow (Sort.putRow (Value.int .i64) (Sort.ahead w k) g 0 (srt l).toArray) os
    have hw : w' = Sort.grow (Sort.putRow (Value.int .i64) (Sort.ahead w k) g 0 (srt l).toArray) os := hw
    rw [hw]
    refine ⟨⟨by simp [is, srt], .inr ⟨g, _, rfl, New.blk h2 hb, hnc, hcm, ?_, ?_⟩⟩, ?_⟩
    · simp [is]; omega
    · have : l.length * 1 = (is (srt l)).length := by simp [is, srt]
      rw [this, List.take_left]
    · exact (((Keep.of_new h1).trans hk fun k _ e => e).trans (Keep.of_new h2) fun _ _ e => e).mono fun k' _ e => ⟨0, by rw [e]⟩

theorem Compact_c {w : World} {a : Option Addr} {n c : Nat} {l : List Int} (h : Owns w 3 1 a n c (is l)) (hs : l.length < 1000000) : Does 105 [.slice a n c] w fun x w' => x = .slice a (Lib.compact l).length c ∧ Owns w' 3 1 a (Lib.compact l).length c (is (Lib.compact l)) ∧ Keep (isB a) w w' := by
  have hn : l.length = n := by have := h.1; simp [is] at this; exact this
  rcases h.2 with ⟨rfl, h0, _⟩ | ⟨g, cur, rfl, hg, hnc, hcm, hcl, htk⟩
  · subst h0
    have hl : l = [] := List.eq_nil_of_length_eq_zero hn
    subst hl
    refine (Any.slices_Compact_int_empty (Tryz.lays20) none c w).mono fun e w' ⟨he, hw⟩ => ⟨_, he, rfl, ?_, ?_⟩
    · subst hw; exact h
    · subst hw; exact Keep.refl _ _
  · subst hn
    have htk : cur.take l.length = is l := by simpa using htk
    have hcl' : (Lib.compact l).length ≤ l.length := by
      unfold Lib.compact Lib.compactUpTo
      rw [List.length_map]
      exact Nat.le_trans (List.length_filter_le _ _) (by simp)
    refine (Any.slices_Compact_int (Tryz.lays20) g 0 c l w (holds_blk hg htk) (by omega) hnc).mono fun e w' ⟨he, k, hw⟩ => ⟨_, he, rfl, ?_⟩
    have h1 := new_ahead w k
    obtain ⟨hb, hk⟩ := putRow_blk (d := Lib.compact l ++ List.replicate (l.length - (Lib.compact l).length) 0) (New.blk h1 hg) (by simp; omega)
    rw [hw]
    refine ⟨⟨by simp [is], .inr ⟨g, _, rfl, hb, by omega, hcm, ?_, ?_⟩⟩, ?_⟩
    · simp [is]; omega
    · have e : is (Lib.compact l ++ List.replicate (l.length - (Lib.compact l).length) 0) ++ cur.drop (Lib.compact l ++ List.replicate (l.length - (Lib.compact l).length) 0).length = is (Lib.compact l) ++ (is (List.replicate (l.length - (Lib.compact l).length) 0) ++ cur.drop (Lib.compact l ++ List.replicate (l.length - (Lib.compact l).length) 0).length) := by simp [is]
      have : (Lib.compact l).length * 1 = (is (Lib.compact l)).length := by simp [is]
      rw [e, this, List.take_left]
    · exact ((Keep.of_new h1).trans hk fun k _ e => e).mono fun k' _ e => ⟨0, by rw [e]⟩
end Go.Proofs.YtjifihffjmbjfaaGreat
