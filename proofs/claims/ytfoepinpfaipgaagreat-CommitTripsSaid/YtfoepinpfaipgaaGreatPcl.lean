/- The pieces of a verb. -/
import Derived.Test.YtfoepinpfaipgaaGreatIter
set_option linter.unusedVariables false
namespace Go.Proofs.YtfoepinpfaipgaaGreat
open Go.Eng Go.RowKit

theorem piecesFrom_in : ∀ (f : Nat) (at_ left : Int), 0 ≤ at_ → ∀ p ∈ piecesFrom f at_ left, at_ ≤ p.1 ∧ 1 ≤ p.2 ∧ p.2 ≤ 8 ∧ p.1 + p.2 ≤ at_ + left
  | 0, _, _, _, p, hp => by simp [piecesFrom] at hp
  | f + 1, at_, left, h0, p, hp => by
    unfold piecesFrom at hp
    split at hp
    · simp at hp
    · rename_i hl
      rcases List.mem_cons.1 hp with rfl | hp
      · simp only
        split <;> omega
      · have := piecesFrom_in f _ _ (by split <;> omega) p hp
        split at this <;> omega

theorem piecesFrom_ne (f : Nat) (at_ left : Int) (h : 1 ≤ left) (hf : 1 ≤ f) : piecesFrom f at_ left ≠ [] := by
  cases f with
  | zero => omega
  | succ f => unfold piecesFrom; rw [if_neg (by omega)]; simp

theorem piecesFrom_len : ∀ (f : Nat) (at_ left : Int), (piecesFrom f at_ left).length ≤ f
  | 0, _, _ => by simp [piecesFrom]
  | f + 1, at_, left => by
    unfold piecesFrom
    split
    · simp
    · simp only [List.length_cons]
      have := piecesFrom_len f (at_ + (if 8 - at_ % 8 < left then 8 - at_ % 8 else left)) (left - (if 8 - at_ % 8 < left then 8 - at_ % 8 else left))
      omega

theorem piecesFrom_one (f : Nat) (at_ : Int) (hf : 1 ≤ f) : piecesFrom f at_ 1 = [(at_, 1)] := by
  cases f with
  | zero => omega
  | succ f =>
    unfold piecesFrom
    rw [if_neg (by omega)]
    have : ¬ 8 - at_ % 8 < 1 := by omega
    simp only [this, if_false]
    cases f with
    | zero => rfl
    | succ f => unfold piecesFrom; rw [if_pos (by omega)]

def prows (ps : List (Int × Int)) : List (List Value) := ps.map fun p => [.int .i64 p.1, .int .i64 p.2]

theorem prows_len (ps : List (Int × Int)) : ∀ r ∈ prows ps, r.length = 2 := by
  intro r hr
  simp only [prows, List.mem_map] at hr
  obtain ⟨v, _, rfl⟩ := hr
  rfl
theorem prows_get {ps : List (Int × Int)} {i : Nat} {p : Int × Int} (h : ps[i]? = some p) : (prows ps)[i]? = some [.int .i64 p.1, .int .i64 p.2] := by simp [prows, h]

abbrev TPc : TypeId := 188

end Go.Proofs.YtfoepinpfaipgaaGreat
