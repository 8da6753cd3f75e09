/- The iterators over the keys of a map, where it is empty. -/
import Derived.Test.YtaddcfkicmeebaaGreatMr2
import Derived.Test.YtaddcfkicmeebaaGreatBase
import Derived.Shelf.Abstract
import Derived.WalkKit
import Derived.OwnWalkIn
import Derived.TacticsInMore
import Derived.LoopIn
import Derived.LoopNIn
set_option linter.unusedVariables false
namespace Go.Mx
open Go.Eng Go.Proofs Go.Proofs.YtaddcfkicmeebaaGreat Go.RowKit Go.Shelf

theorem cell_later {w0 W : World} (hW : Below w0.heap.size w0 W) {b : Nat} {v : Value} (h : w0.cell? ⟨b, 0, none⟩ = some v) : W.cell? ⟨b, 0, none⟩ = some v := by
  obtain ⟨o, ho, _⟩ := cells_of_cell h
  exact (World.cell?_of_block (hW.block b (Array.getElem?_eq_some_iff.1 ho).1)).trans h

set_option maxRecDepth 100000 in
theorem keysB_ok : KeysOk Tryz.prog 239 := by
  refine ⟨enters_of Tryz.func239 (by kernel_rfl) rfl, ?_⟩
  intro b1 b2 c w0 hc1 hc2 l J Jx W hW hJ hJx hY h0
  have hm : W.cell? ⟨b1, 0, none⟩ = some (.map (some b2)) := cell_later hW hc1
  have hb : W.heap[b2]? = some (.map #[] c) := (hW.block b2 (Array.getElem?_eq_some_iff.1 hc2).1).trans hc2
  have ht : Tryz.prog.underlying 303 = some (.map 3 4) := Tryz.underlying303
  have hrg := run_range_map (P := Tryz.prog) W _ _ _ b2 #[] c ht hb
  have hi : (W.alloc (.mapIter (some b2) c #[] c)).heap[W.heap.size]? = some (.mapIter (some b2) c #[] c) := World.alloc_heap_new _ _
  have hb' : (W.alloc (.mapIter (some b2) c #[] c)).heap[b2]? = some (.map #[] c) := (Below.heap_alloc W _ b2 (Array.getElem?_eq_some_iff.1 hb).1).trans hb
  have hnx := fun ty => run_next_empty (P := Tryz.prog) hi hb' ty
  refine callsIn_of_wp Tryz.func239 rfl trivial ?_ rfl
  simp only [Tryz.f239, List.size_toArray, List.length_cons, List.length_nil, Nat.reduceAdd, Nat.reduceSub, Array.replicate_succ, Array.replicate_zero, List.push_toArray, List.append_toArray, List.nil_append, List.cons_append]
  gi_wp2
  refine wpIn_loop_rounds 1 ?_
  rw [roundsIn_succ]
  gi_wp2
  go_end0
  exact ⟨⟨_, rfl⟩, .inl ⟨[], trivial, hJ [] W _ none h0 (World.grownBy_alloc W _ none) (fun r e => by cases e)⟩⟩

set_option maxRecDepth 100000 in
theorem keysR_ok : KeysOk Tryz.prog 237 := by
  refine ⟨enters_of Tryz.func237 (by kernel_rfl) rfl, ?_⟩
  intro b1 b2 c w0 hc1 hc2 l J Jx W hW hJ hJx hY h0
  have hm : W.cell? ⟨b1, 0, none⟩ = some (.map (some b2)) := cell_later hW hc1
  have hb : W.heap[b2]? = some (.map #[] c) := (hW.block b2 (Array.getElem?_eq_some_iff.1 hc2).1).trans hc2
  have ht : Tryz.prog.underlying 187 = some (.map 3 231) := Tryz.underlying187
  have hrg := run_range_map (P := Tryz.prog) W _ _ _ b2 #[] c ht hb
  have hi : (W.alloc (.mapIter (some b2) c #[] c)).heap[W.heap.size]? = some (.mapIter (some b2) c #[] c) := World.alloc_heap_new _ _
  have hb' : (W.alloc (.mapIter (some b2) c #[] c)).heap[b2]? = some (.map #[] c) := (Below.heap_alloc W _ b2 (Array.getElem?_eq_some_iff.1 hb).1).trans hb
  have hnx := fun ty => run_next_empty (P := Tryz.prog) hi hb' ty
  refine callsIn_of_wp Tryz.func237 rfl trivial ?_ rfl
  simp only [Tryz.f237, List.size_toArray, List.length_cons, List.length_nil, Nat.reduceAdd, Nat.reduceSub, Array.replicate_succ, Array.replicate_zero, List.push_toArray, List.append_toArray, List.nil_append, List.cons_append]
  gi_wp2
  refine wpIn_loop_rounds 1 ?_
  rw [roundsIn_succ]
  gi_wp2
  go_end0
  exact ⟨⟨_, rfl⟩, .inl ⟨[], trivial, hJ [] W _ none h0 (World.grownBy_alloc W _ none) (fun r e => by cases e)⟩⟩
end Go.Mx
