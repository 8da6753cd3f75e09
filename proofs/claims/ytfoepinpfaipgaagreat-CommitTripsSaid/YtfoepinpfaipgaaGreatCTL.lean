/- CommitTrips: the law. -/
import Derived.Test.YtfoepinpfaipgaaGreatCT00
import Derived.Test.YtfoepinpfaipgaaGreatCT01
import Derived.Test.YtfoepinpfaipgaaGreatCT02
import Derived.Test.YtfoepinpfaipgaaGreatCT03
import Derived.Test.YtfoepinpfaipgaaGreatCT04
import Derived.Test.YtfoepinpfaipgaaGreatCT05
import Derived.Test.YtfoepinpfaipgaaGreatCT10
import Derived.Test.YtfoepinpfaipgaaGreatCT11
import Derived.Test.YtfoepinpfaipgaaGreatCT12
import Derived.Test.YtfoepinpfaipgaaGreatCT13
import Derived.Test.YtfoepinpfaipgaaGreatCT14
import Derived.Test.YtfoepinpfaipgaaGreatCT15
import Derived.Test.YtfoepinpfaipgaaGreatCT20
import Derived.Test.YtfoepinpfaipgaaGreatCT21
import Derived.Test.YtfoepinpfaipgaaGreatCT22
import Derived.Test.YtfoepinpfaipgaaGreatCT23
import Derived.Test.YtfoepinpfaipgaaGreatCT24
import Derived.Test.YtfoepinpfaipgaaGreatCT25
import Derived.Test.YtfoepinpfaipgaaGreatCT30
import Derived.Test.YtfoepinpfaipgaaGreatCT31
import Derived.Test.YtfoepinpfaipgaaGreatCT32
import Derived.Test.YtfoepinpfaipgaaGreatCT33
import Derived.Test.YtfoepinpfaipgaaGreatCT34
import Derived.Test.YtfoepinpfaipgaaGreatCT35
set_option linter.unusedVariables false
namespace Go.Mx
open Go.Eng Go.Proofs Go.Proofs.YtfoepinpfaipgaaGreat

theorem rnT_eq (a b c : Nat) (x y z : Int) : rnT a b c x y z = callX (xPick [(4, a), (6, b), (14, c)] []) Tryz.prog (onlyF needCT SA) plans 60 4 [.c (.i 3 x), .c (.i 3 y), .c (.i 3 z)] hp0 (fun v _ => onB v True False) := by
  unfold rnT
  exact Eq.refl _
theorem chainT_mk {a b c : Nat} {x y z : Int} (h : G x 4 a ∧ (G y 6 b ∧ (G z 14 c ∧ (G z 14 c ∧ (G z 14 c ∧ (G z 14 c ∧ True)))))) : chainT a b c x y z := by
  unfold chainT
  exact h

section
attribute [local irreducible] rnT chainT callX
theorem rnT_all {a b c : Nat} (ha : a < 4) (hb : b < 6) (hc : c < 14) {x y z : Int} (h : chainT a b c x y z) : rnT a b c x y z := by
  have ha : a = 0 ∨ a = 1 ∨ a = 2 ∨ a = 3 := by omega
  have hb : b = 0 ∨ b = 1 ∨ b = 2 ∨ b = 3 ∨ b = 4 ∨ b = 5 := by omega
  rcases ha with rfl | rfl | rfl | rfl <;> rcases hb with rfl | rfl | rfl | rfl | rfl | rfl
  · exact t00 x y z c hc h
  · exact t01 x y z c hc h
  · exact t02 x y z c hc h
  · exact t03 x y z c hc h
  · exact t04 x y z c hc h
  · exact t05 x y z c hc h
  · exact t10 x y z c hc h
  · exact t11 x y z c hc h
  · exact t12 x y z c hc h
  · exact t13 x y z c hc h
  · exact t14 x y z c hc h
  · exact t15 x y z c hc h
  · exact t20 x y z c hc h
  · exact t21 x y z c hc h
  · exact t22 x y z c hc h
  · exact t23 x y z c hc h
  · exact t24 x y z c hc h
  · exact t25 x y z c hc h
  · exact t30 x y z c hc h
  · exact t31 x y z c hc h
  · exact t32 x y z c hc h
  · exact t33 x y z c hc h
  · exact t34 x y z c hc h
  · exact t35 x y z c hc h


theorem CommitTrips_c (w : World) {x y z : Int} (hx : I64 x) (hy : I64 y) (hz : I64 z) : Does 4 [.int .i64 x, .int .i64 y, .int .i64 z] w fun v w' => v = .bool true ∧ New w w' := by
  obtain ⟨a, ha, ea⟩ : ∃ a : Nat, a < 4 ∧ x % 4 = (a : Int) := ⟨(x % 4).toNat, by omega, by omega⟩
  obtain ⟨b, hb, eb⟩ : ∃ b : Nat, b < 6 ∧ y % 6 = (b : Int) := ⟨(y % 6).toNat, by omega, by omega⟩
  obtain ⟨c, hc, ec⟩ : ∃ c : Nat, c < 14 ∧ z % 14 = (c : Int) := ⟨(z % 14).toNat, by omega, by omega⟩
  have hG : G z 14 c := ⟨hz, ec⟩
  have hch : chainT a b c x y z := chainT_mk ⟨⟨hx, ea⟩, ⟨hy, eb⟩, hG, hG, hG, hG, trivial⟩
  have hr := rnT_all ha hb hc hch
  clear hch
  rw [rnT_eq] at hr
  refine runX_true (X := xPick [(4, a), (6, b), (14, c)] []) (l := needCT) (S := SA) (Z := plans) (fuel := 60) (args := [.c (.i 3 x), .c (.i 3 y), .c (.i 3 z)]) (xPick_ok ?_ ?_) (SA_ok _) needCT_ok ⟨rfl, rfl, rfl, trivial⟩ hr
  · intro p hp
    simp only [List.mem_cons, List.not_mem_nil, or_false] at hp
    rcases hp with rfl | rfl | rfl <;> exact ⟨by simp, by simp⟩
  · intro p hp
    cases hp
end
end Go.Mx
