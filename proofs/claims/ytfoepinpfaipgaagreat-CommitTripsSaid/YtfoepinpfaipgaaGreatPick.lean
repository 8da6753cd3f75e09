/- Numbers in range. -/
import Derived.Test.YtfoepinpfaipgaaGreatLt
import Derived.Test.YtfoepinpfaipgaaGreatCodePick
set_option linter.unusedVariables false
namespace Go.Proofs.YtfoepinpfaipgaaGreat
open Go.Eng

theorem Pick_c (w : World) (x n : Int) (hx : -9223372036854775808 ≤ x ∧ x < 9223372036854775808) (hn : n < 4611686018427387904) : Does 6 [.int .i64 x, .int .i64 n] w fun v w' => v = .int .i64 (if n < 1 then 0 else x % n) ∧ w' = w := by
  refine does Tryz.func6 ?_
  rw [bodegahand_Pick_vc]
  refine bif_dec (fun h => ⟨by rw [if_pos h], rfl⟩) (fun h => ⟨rfl, by omega, rfl, by omega, ?_, rfl⟩)
  rw [if_neg h]
  have h1 : 0 < n := by omega
  have key : ∃ t k, Int.tmod x n = t ∧ -n < t ∧ t < n ∧ t + n * k = x := by
    rcases Int.le_total 0 x with hx0 | hx0
    · refine ⟨x % n, x / n, Int.tmod_eq_emod_of_nonneg hx0, ?_, Int.emod_lt_of_pos x h1, Int.emod_add_mul_ediv x n⟩
      have := Int.emod_nonneg x (Int.ne_of_gt h1)
      omega
    · refine ⟨-((-x) % n), -((-x) / n), ?_, ?_, ?_, ?_⟩
      · rw [← Int.tmod_eq_emod_of_nonneg (by omega), Int.neg_tmod, Int.neg_neg]
      · have := Int.emod_lt_of_pos (-x) h1
        omega
      · have := Int.emod_nonneg (-x) (Int.ne_of_gt h1)
        omega
      · have := Int.emod_add_mul_ediv (-x) n
        rw [Int.mul_neg]
        omega
  obtain ⟨t, k, ht, h2, h3, hk⟩ := key
  rw [ht, w64 (by omega) (by omega)]
  congr 1
  rw [Int.tmod_eq_emod_of_nonneg (by omega), Int.add_emod_right, ← hk, Int.add_mul_emod_self_left]

end Go.Proofs.YtfoepinpfaipgaaGreat
