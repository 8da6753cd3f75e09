/- The iterator over the chunks of a slice, where there is one chunk at most. -/
import Derived.Test.YtaddcfkicmeebaaGreatMr2
import Derived.Test.YtaddcfkicmeebaaGreatCodeCk
import Derived.Test.YtaddcfkicmeebaaGreatBase
import Derived.Test.YtaddcfkicmeebaaGreatIter
import Derived.Shelf.Abstract
set_option linter.unusedVariables false
namespace Go.Mx
open Go.Eng Go.Proofs Go.Proofs.YtaddcfkicmeebaaGreat Go.RowKit Go.Shelf

theorem chunk_in (l b1 b2 : Nat) (a : Option Addr) (len cap n : Nat) (J Jx : List Unit → World → Prop) (hn1 : 1 ≤ n) (hn2 : n ≤ 1000000) (hln : len ≤ n) (hlc : len ≤ cap) (W : World)
    (hc1 : W.cell? ⟨b1, 0, none⟩ = some (.slice a len cap)) (hc2 : W.cell? ⟨b2, 0, none⟩ = some (.int .i64 (n : Int)))
    (hJ : AbidesFrom W.heap.size J) (hY : ∀ pre x W1, J pre W1 → pre.length < (if len = 0 then 0 else 1) → YieldAt Fence.wide 1 Tryz.prog l #[.slice a len len] W1 fun e W' =>
      (e = .returned (.bool true) ∧ J (pre ++ [x]) W' ∧ (Boxes b1 b2 len n W1 → Boxes b1 b2 len n W')) ∨ (e = .returned (.bool false) ∧ Jx (pre ++ [x]) W'))
    (h0 : J [] W) :
    CallsIn Fence.wide 2 Tryz.prog 249 #[.func (.yield l) #[] #[], .pointer (some ⟨b1, 0, none⟩), .pointer (some ⟨b2, 0, none⟩)] W fun e W' => (∃ v, e = .returned v) ∧
      ((∃ ys, ys = (if len = 0 then [] else [()]) ∧ J ys W') ∨ (∃ pre, True ∧ Jx pre W')) := by
  refine callsIn_wide.2 (Calls.mono (R := fun e w' => ∃ x, e = .returned x ∧ ((∃ ys, ys = (if len = 0 then [] else [()]) ∧ J ys w') ∨ (∃ pre, True ∧ Jx pre w'))) ?_ fun e w' ⟨x, hx, hr⟩ => ⟨⟨x, hx⟩, hr⟩)
  refine does Tryz.func249 (args := [.func (.yield l) #[] #[], .pointer (some ⟨b1, 0, none⟩), .pointer (some ⟨b2, 0, none⟩)]) (R := fun _ w' => (∃ ys, ys = (if len = 0 then [] else [()]) ∧ J ys w') ∨ (∃ pre, True ∧ Jx pre w')) ?_
  rw [slices_Chunk_Suint64_uint64_1_vc]
  refine loop_rule mix (fun m env u => ∃ (i : Int) (jj : List Value), env = slices_Chunk_Suint64_uint64_1_env1 (.func (.yield l) #[] #[]) ⟨b1, 0, none⟩ ⟨b2, 0, none⟩ i jj ∧
      ((i = 0 ∧ m = 1 ∧ J [] u ∧ u.cell? ⟨b1, 0, none⟩ = some (.slice a len cap) ∧ u.cell? ⟨b2, 0, none⟩ = some (.int .i64 (n : Int)) ∧ W.heap.size ≤ u.heap.size) ∨ (i = n ∧ len ≠ 0 ∧ J [()] u ∧ Boxes b1 b2 len n u))) 1
    ⟨0, _, rfl, .inl ⟨rfl, rfl, h0, hc1, hc2, Nat.le_refl _⟩⟩ ?_
  rintro m env u ⟨i, jj, rfl, ⟨rfl, rfl, hJu, hu1, hu2, hsz⟩ | ⟨rfl, hl0, hJu, ⟨a', cap', hu1⟩, hu2⟩⟩
  · rw [slices_Chunk_Suint64_uint64_1_loop1_body]
    refine ⟨a, len, cap, hu1, bif_dec (fun hp => ?_) (fun hp => ?_)⟩
    · have hl0 : len ≠ 0 := by omega
      rintro w1 hw1
      have hn1' : Go.Eng.New u w1 := by rw [hw1]; exact new_drew _
      have e1 : w1.cell? ⟨b1, 0, none⟩ = some (.slice a len cap) := by rw [hw1]; exact hu1
      have e2 : w1.cell? ⟨b2, 0, none⟩ = some (.int .i64 (n : Int)) := by rw [hw1]; exact hu2
      refine ⟨fun z => z.cell? ⟨b1, 0, none⟩ = some (.slice a len cap) ∧ z.cell? ⟨b2, 0, none⟩ = some (.int .i64 (n : Int)), ⟨e1, e2⟩, (n : Int), fun z hz => hz.2, a, len, cap, fun z hz => hz.1, ?_⟩
      refine ⟨by omega, by omega, by omega, by omega, hlc, ?_⟩
      refine ⟨a, len, cap, e1, ?_⟩
      have hmin : (if (((((len : Nat) : Int)).toNat - (0 : Int).toNat : Nat) : Int) < (n : Int) then (((((len : Nat) : Int)).toNat - (0 : Int).toNat : Nat) : Int) else (n : Int)) = (len : Int) := by split <;> omega
      rw [hmin, w64 (x := 0 + (len : Int)) (by omega) (by omega)]
      refine ⟨by omega, by omega, by omega, by omega, hlc, ?_⟩
      have ea : (if (0 + (len : Int)) = 0 then a else a.map (·.add ((0 : Int).toNat * 1))) = a := by
        split
        · rfl
        · cases a with
          | none => rfl
          | some x => simp [Addr.add]
      have el : (0 + (len : Int)).toNat - (0 : Int).toNat = len := by omega
      rw [ea, el]
      have hJ1 : J [] w1 := hJ _ _ _ none hJu ⟨hn1'.os, hn1'.tape, hn1'.output, hn1'.size, fun k hk _ => hn1'.block k hk id⟩ (fun _ h => by cases h)
      obtain ⟨fn, tmps, assign, body, hy, hr⟩ := hY [] () w1 hJ1 (by rw [if_neg hl0]; simp)
      refine ⟨fn, tmps, assign, body, hy, hr.1, fun c cs _ => ?_⟩
      obtain ⟨e, w3, h3, hs⟩ := hr.2 c cs (room_wide _)
      refine ⟨e, w3, ?_, hs⟩
      rcases h3 with ⟨rfl, hJ3, hK⟩ | ⟨rfl, hJx3⟩
      · obtain ⟨hB1, hB2⟩ := hK ⟨⟨a, cap, e1⟩, e2⟩
        refine ⟨true, rfl, bif_f rfl ⟨(n : Int), hB2, ?_⟩⟩
        have ew : IntKind.i64.wrap (0 + (n : Int)) = (n : Int) := by rw [w64 (by omega) (by omega)]; omega
        rw [ew]
        exact ⟨0, by omega, (n : Int), _, rfl, .inr ⟨rfl, hl0, hJ3, hB1, hB2⟩⟩
      · exact ⟨false, rfl, bif_t rfl (.inr ⟨_, trivial, hJx3⟩)⟩
    · have : len = 0 := by omega
      exact .inl ⟨[], by rw [if_pos this], hJu⟩
  · rw [slices_Chunk_Suint64_uint64_1_loop1_body]
    refine ⟨a', len, cap', hu1, bif_dec (fun hp => ?_) (fun hp => ?_)⟩
    · omega
    · exact .inl ⟨[()], by rw [if_neg hl0], hJu⟩

theorem chunk_ok : ChunkOk Tryz.prog 249 := by
  refine ⟨enters_of Tryz.func249 (by kernel_rfl) rfl, ?_⟩
  intro b1 b2 a len cap n w0 hc1 hc2 hn1 hn2 hln hlc ha l J Jx W hW hJ hJx hY h0
  have cell : ∀ {b v}, w0.cell? ⟨b, 0, none⟩ = some v → W.cell? ⟨b, 0, none⟩ = some v := by
    intro b v h
    obtain ⟨o, ho, _⟩ := cells_of_cell h
    have hlt := (Array.getElem?_eq_some_iff.1 ho).1
    exact (World.cell?_of_block (hW.block b hlt)).trans h
  exact chunk_in l b1 b2 a len cap n J Jx hn1 hn2 hln hlc W (cell hc1) (cell hc2) hJ (fun pre x W1 h1 h2 => hY pre x W1 h1 h2) h0
end Go.Mx
