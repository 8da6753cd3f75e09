/- CommitTrips: 2 memory node(s), compute node 2, all choices of pages. -/
import Derived.Test.YtfoepinpfaipgaaGreatCTb
set_option linter.unusedVariables false
namespace Go.Mx
open Go.Eng Go.Proofs Go.Proofs.YtfoepinpfaipgaaGreat

set_option maxHeartbeats 8000000 in
theorem e12 : (fun x y z => [rnT 1 2 0 x y z, rnT 1 2 1 x y z, rnT 1 2 2 x y z, rnT 1 2 3 x y z, rnT 1 2 4 x y z, rnT 1 2 5 x y z, rnT 1 2 6 x y z, rnT 1 2 7 x y z, rnT 1 2 8 x y z, rnT 1 2 9 x y z, rnT 1 2 10 x y z, rnT 1 2 11 x y z, rnT 1 2 12 x y z, rnT 1 2 13 x y z]) = (fun x y z => [chainT 1 2 0 x y z, chainT 1 2 1 x y z, chainT 1 2 2 x y z, chainT 1 2 3 x y z, chainT 1 2 4 x y z, chainT 1 2 5 x y z, chainT 1 2 6 x y z, chainT 1 2 7 x y z, chainT 1 2 8 x y z, chainT 1 2 9 x y z, chainT 1 2 10 x y z, chainT 1 2 11 x y z, chainT 1 2 12 x y z, chainT 1 2 13 x y z]) := by kernel_rfl
attribute [local irreducible] rnT chainT
theorem t12 (x y z : Int) (c : Nat) (hc : c < 14) (h : chainT 1 2 c x y z) : rnT 1 2 c x y z := by
  have e := congrFun (congrFun (congrFun e12 x) y) z
  simp only [List.cons.injEq, and_true] at e
  obtain ⟨h0, h1, h2, h3, h4, h5, h6, h7, h8, h9, h10, h11, h12, h13⟩ := e
  have hh : c = 0 ∨ c = 1 ∨ c = 2 ∨ c = 3 ∨ c = 4 ∨ c = 5 ∨ c = 6 ∨ c = 7 ∨ c = 8 ∨ c = 9 ∨ c = 10 ∨ c = 11 ∨ c = 12 ∨ c = 13 := by omega
  rcases hh with rfl | rfl | rfl | rfl | rfl | rfl | rfl | rfl | rfl | rfl | rfl | rfl | rfl | rfl
  · exact Eq.mpr h0 h
  · exact Eq.mpr h1 h
  · exact Eq.mpr h2 h
  · exact Eq.mpr h3 h
  · exact Eq.mpr h4 h
  · exact Eq.mpr h5 h
  · exact Eq.mpr h6 h
  · exact Eq.mpr h7 h
  · exact Eq.mpr h8 h
  · exact Eq.mpr h9 h
  · exact Eq.mpr h10 h
  · exact Eq.mpr h11 h
  · exact Eq.mpr h12 h
  · exact Eq.mpr h13 h
end Go.Mx
