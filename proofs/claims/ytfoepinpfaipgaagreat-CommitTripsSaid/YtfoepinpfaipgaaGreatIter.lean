/- The iterator of the pieces of a verb. -/
import Derived.RangeFuncNested
import Derived.RangeFuncBound
import Derived.RangeFuncCalls
import Derived.RangeFuncLeaves
import Derived.Test.YtfoepinpfaipgaaGreatPv
set_option linter.unusedVariables false
namespace Go.Proofs.YtfoepinpfaipgaaGreat
open Go.Eng Go.RowKit

def encP (x : Int × Int) : Array Value := #[.agg #[.int .i64 x.1, .int .i64 x.2]]

/-- The pieces from address at_ on, so many words. -/
def piecesFrom : Nat → Int → Int → List (Int × Int)
  | 0, _, _ => []
  | f + 1, at_, left => if left ≤ 0 then [] else (at_, if 8 - at_ % 8 < left then 8 - at_ % 8 else left) ::
      piecesFrom f (at_ + (if 8 - at_ % 8 < left then 8 - at_ % 8 else left)) (left - (if 8 - at_ % 8 < left then 8 - at_ % 8 else left))

def VerbV.pieces (v : VerbV) : List (Int × Int) := piecesFrom v.count.toNat v.At v.count

theorem grown_of_new {w w' : World} (h : Go.Eng.New w w') : w.grownBy w' none := ⟨h.os, h.tape, h.output, h.size, fun k hk _ => h.block k hk id⟩

theorem yield_wide {m : Nat} {P : Program} {l : Nat} {args : Array Value} {W : World} {R : Ending → World → Prop} (h : YieldAt Fence.wide m P l args W R) (k : Nat) : YieldAt Fence.wide k P l args W R := by
  obtain ⟨fn, tmps, assign, body, h1, h2⟩ := h
  exact ⟨fn, tmps, assign, body, h1, h2.1, fun c cs _ => h2.2 c cs (room_wide _)⟩

theorem pieces1_in (n l Bn n₀ : Nat) (v : VerbV) (J Jx : List (Int × Int) → World → Prop) (ha0 : 0 ≤ v.At) (ha1 : v.At ≤ 1000000) (hc0 : 1 ≤ v.count) (hc1 : v.count ≤ 1000000) (W : World)
    (hJ : AbidesFrom W.heap.size J) (hY : ∀ pre x W, J pre W → pre.length < v.pieces.length → YieldAt Fence.wide (n - 1) Tryz.prog l (encP x) W fun e W' =>
      (e = .returned (.bool true) ∧ J (pre ++ [x]) W' ∧ Below n₀ W W') ∨ (e = .returned (.bool false) ∧ Jx (pre ++ [x]) W'))
    (hBn : ∀ u, Below (Bn + 1) W u → cellsAt u ⟨Bn, 0, none⟩ 0 v.cells) (hb : Bn + 1 ≤ W.heap.size) (h0 : J [] W) :
    CallsIn Fence.wide n Tryz.prog 162 #[.func (.yield l) #[] #[], .pointer (some ⟨Bn, 0, none⟩)] W fun e W' => (∃ v, e = .returned v) ∧
      ((∃ ys, ys = v.pieces ∧ J ys W') ∨ (∃ pre, pre <+: v.pieces ∧ Jx pre W')) := by
  refine callsIn_wide.2 (Calls.mono (R := fun e w' => ∃ x, e = .returned x ∧ ((∃ ys, ys = v.pieces ∧ J ys w') ∨ (∃ pre, pre <+: v.pieces ∧ Jx pre w'))) ?_ fun e w' ⟨x, hx, hr⟩ => ⟨⟨x, hx⟩, hr⟩)
  refine does Tryz.func162 (args := [.func (.yield l) #[] #[], .pointer (some ⟨Bn, 0, none⟩)]) (R := fun _ w' => (∃ ys, ys = v.pieces ∧ J ys w') ∨ (∃ pre, pre <+: v.pieces ∧ Jx pre w')) ?_
  rw [verb_pieces_1_vc]
  intro w1 hw1
  have hn1 : Go.Eng.New W w1 := by rw [hw1]; exact new_drew _
  clear hw1
  have hbl : ∀ u, Go.Eng.New w1 u → Below (Bn + 1) W u := fun u hu => (hn1.new hu).below (by omega) fun _ _ h => h
  refine ⟨fun u => Go.Eng.New w1 u, Keep.refl _ _, v.At, fun u hu => ?_, ?_⟩
  · have := hBn u (hbl u hu)
    exact this.2.2.1
  refine vloadS (v := v) (fun u hu => hBn u (hbl u hu)) ?_
  refine at_call (Count_c _ v) ?_
  rintro r w2 ⟨rfl, hn2⟩
  refine ⟨_, rfl, hn2, ?_⟩
  have hJ2 : J [] w2 := hJ _ _ _ none h0 (grown_of_new (hn1.new hn2)) (fun _ h => by cases h)
  refine loop_rule mix (fun m env u => ∃ (f : Nat) (at_ left : Int) (jj : List Value) (pre : List (Int × Int)), m = f ∧ left ≤ f ∧ 0 ≤ at_ ∧ 0 ≤ left ∧ at_ + left ≤ 2000000 ∧ env = verb_pieces_1_env1 (.func (.yield l) #[] #[]) at_ left jj ∧ v.pieces = pre ++ piecesFrom f at_ left ∧ J pre u) v.count.toNat
    ⟨v.count.toNat, v.At, v.count, _, [], rfl, by omega, ha0, by omega, by omega, rfl, rfl, hJ2⟩ ?_
  rintro f env u ⟨_, at_, left, jj, pre, rfl, hlf, hat, hle, hsum, rfl, hpre, hJu⟩
  rw [verb_pieces_1_loop1_body]
  refine bif_dec (fun hp => ?_) (fun hp => ?_)
  · obtain ⟨f', rfl⟩ : ∃ f', f = f' + 1 := ⟨f - 1, by omega⟩
    have hmod : Int.tmod at_ 8 = at_ % 8 := Int.tmod_eq_emod_of_nonneg hat
    rw [hmod, w64 (x := 8 - at_ % 8) (by omega) (by omega)]
    generalize hk : (if 8 - at_ % 8 < left then 8 - at_ % 8 else left) = k
    have hk1 : 1 ≤ k ∧ k ≤ left ∧ k ≤ 8 := by rw [← hk]; split <;> omega
    have hcons : piecesFrom (f' + 1) at_ left = (at_, k) :: piecesFrom f' (at_ + k) (left - k) := by
      rw [piecesFrom, if_neg (by omega), hk]
    rw [hcons] at hpre
    have hy := yield_wide (hY pre (at_, k) u hJu (by rw [hpre]; simp)) 0
    refine Exists.imp (fun fn => Exists.imp fun tmps => Exists.imp fun assign => Exists.imp fun body => And.imp id fun h => RoundIn.mono h ?_) hy
    rintro e w3 (⟨rfl, hJ3, _⟩ | ⟨rfl, hJx3⟩)
    · refine ⟨_, rfl, bif_f rfl ?_⟩
      rw [w64 (by omega) (by omega), w64 (by omega) (by omega)]
      refine ⟨f', by omega, f', at_ + k, left - k, _, pre ++ [(at_, k)], rfl, by omega, by omega, by omega, by omega, rfl, by rw [hpre]; simp, hJ3⟩
    · exact ⟨_, rfl, bif_t rfl (.inr ⟨_, ⟨piecesFrom f' (at_ + k) (left - k), by rw [hpre]; simp⟩, hJx3⟩)⟩
  · refine .inl ⟨pre, ?_, hJu⟩
    have : left = 0 := by omega
    subst this
    rw [hpre]
    cases f <;> simp [piecesFrom]
end Go.Proofs.YtfoepinpfaipgaaGreat
