/- The seat's program under the engine: its closed facts, and small rules for the formulas. -/
import Derived.Test.YtfoepinpfaipgaaGreatProg
import Derived.Test.YtfoepinpfaipgaaGreatHeap
set_option linter.unusedVariables false
namespace Go.Eng

/-! ### Rules for the formulas -/

theorem bif_b {b : Bool} {A B : Prop} (ht : b = true → A) (hf : b = false → B) : (bif b then A else B) := by
  cases b
  · exact hf rfl
  · exact ht rfl

theorem bif_dec {p : Prop} [Decidable p] {A B : Prop} (ht : p → A) (hf : ¬ p → B) : (bif decide p then A else B) :=
  bif_b (fun h => ht (of_decide_eq_true h)) (fun h => hf (of_decide_eq_false h))

theorem bif_beq {x y : Int} {A B : Prop} (ht : x = y → A) (hf : x ≠ y → B) : (bif (x == y) then A else B) :=
  bif_b (fun h => ht (by simpa using h)) (fun h => hf (by simpa using h))

theorem bif_bne {x y : Int} {A B : Prop} (ht : x ≠ y → A) (hf : x = y → B) : (bif (x != y) then A else B) :=
  bif_b (fun h => ht (by simpa using h)) (fun h => hf (by simpa using h))

theorem bif_not {b : Bool} {A B : Prop} (hf : b = false → A) (ht : b = true → B) : (bif (!b) then A else B) := by
  cases b
  · exact hf rfl
  · exact ht rfl

theorem bif_t {b : Bool} {A B : Prop} (hb : b = true) (h : A) : (bif b then A else B) := by subst hb; exact h

theorem bif_f {b : Bool} {A B : Prop} (hb : b = false) (h : B) : (bif b then A else B) := by subst hb; exact h

theorem idxS_mk {b o len sz : Nat} {n : Int} {K : Addr → Prop} (h0 : 0 ≤ n) (h1 : n < len) (h : K ⟨b, o + n.toNat * sz, none⟩) : idxS (some ⟨b, o, none⟩) len n sz K :=
  ⟨_, rfl, h0, h1, by rw [add_eq]; exact h⟩

theorem idxA_mk {b o len sz : Nat} {n : Int} {K : Addr → Prop} (h0 : 0 ≤ n) (h1 : n < len) (h : K ⟨b, o + n.toNat * sz, none⟩) : idxA ⟨b, o, none⟩ len n sz K :=
  ⟨h0, h1, by rw [add_eq]; exact h⟩

/-- A slice expression: the address is moved, but where nothing is left of the capacity. -/
theorem sl3_mk {b o len cap sz : Nat} {lo hi mx : Int} {K : Option Addr → Nat → Nat → Prop} (h0 : 0 ≤ lo) (h1 : lo ≤ hi) (h2 : hi ≤ mx) (h3 : mx ≤ cap) (h4 : len ≤ cap)
    (h : ∀ a, (a = some ⟨b, o + lo.toNat * sz, none⟩ ∨ hi = lo ∧ a = some ⟨b, o, none⟩) → K a (hi.toNat - lo.toNat) (mx.toNat - lo.toNat)) : sl3 (some ⟨b, o, none⟩) len cap lo hi mx sz K := by
  refine ⟨h0, h1, h2, h3, h4, h _ ?_⟩
  split
  · rename_i he; exact .inr ⟨by omega, rfl⟩
  · refine .inl ?_
    simp only [Option.map_some, add_eq]

theorem w64 {x : Int} (h0 : -9223372036854775808 ≤ x) (h1 : x < 9223372036854775808) : IntKind.i64.wrap x = x := by
  simp only [IntKind.wrap, IntKind.bits, IntKind.signed]; simp; omega

theorem wu64 {x : Int} (h0 : 0 ≤ x) (h1 : x < 18446744073709551616) : IntKind.u64.wrap x = x := by
  simp only [IntKind.wrap, IntKind.bits, IntKind.signed]; simp; omega

end Go.Eng
namespace Go.Proofs.YtfoepinpfaipgaaGreat
open Go.Eng

theorem mix : Tryz.prog.follows .mixedOrders = true := by kernel_rfl

abbrev Does (f : FuncId) (args : List Value) (w : World) (R : Value → World → Prop) : Prop := Calls Tryz.prog f args.toArray w fun e w' => ∃ v, e = .returned v ∧ R v w'

theorem does {f : FuncId} {fn : Func} {args : List Value} {w : World} {R : Value → World → Prop} (hf : Tryz.prog.funcs[f]? = some fn) (h : fnW Tryz.prog fn args R w) : Does f args w R := calls_of mix hf h

/-- A contract at a call. -/
theorem at_call {f : FuncId} {args : Array Value} {w : World} {R : Value → World → Prop} {Q : Ending → World → Prop} (h : Calls Tryz.prog f args w fun e w' => ∃ v, e = .returned v ∧ R v w') (hq : ∀ v w', R v w' → Q (.returned v) w') : Calls Tryz.prog f args w Q :=
  h.mono fun e w' ⟨v, he, hr⟩ => he ▸ hq v w' hr

theorem infoB {T : TypeId} {z : Value} {n m : Nat} (h : (Tryz.prog.info? T).map (fun i => (i.zero, i.size, i.bytes)) = some (some z, n, m)) : ∃ i, Tryz.prog.info? T = some i ∧ i.zero = some z ∧ i.size = n ∧ i.bytes = m := by
  cases hi : Tryz.prog.info? T with
  | none => rw [hi] at h; cases h
  | some i => rw [hi] at h; simp at h; exact ⟨i, rfl, h.1, h.2.1, h.2.2⟩
end Go.Proofs.YtfoepinpfaipgaaGreat
