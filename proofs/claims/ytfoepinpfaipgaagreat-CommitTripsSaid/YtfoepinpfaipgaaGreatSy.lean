/- Inputs that are not known: where Pick is called, what is known of the remainder is used. -/
import Derived.Test.YtfoepinpfaipgaaGreatMpC
import Derived.Test.YtfoepinpfaipgaaGreatPick
set_option linter.unusedVariables false
namespace Go.Mx
open Go.Eng Go.Proofs Go.Proofs.YtfoepinpfaipgaaGreat

abbrev Sg := List V → Hp → KV → Prop
abbrev Xm := FuncId → Option (Sg → Sg)

noncomputable section
/-- The semantics, where some functions are replaced at the call. -/
def callX (X : Xm) (P : Program) (S : Sm) (Z : FuncId → Plans) (fuel : Nat) : Cal :=
  @Nat.rec (fun _ => Cal) (fun _ _ _ _ => False) (fun _ ih f args H K => match X f with
    | some g => g (fun args H K => (fnC P S Z f).go ih args H K) args H K
    | none => (fnC P S Z f).go ih args H K) fuel

def XOk (P : Program) (w0 : Bs) (X : Xm) : Prop := ∀ f g d, X f = some g → SumOk P w0 f d → SumOk P w0 f (g d)

theorem callX_sound {P : Program} {w0 : Bs} (hD : DrawOk P) {X : Xm} {S : Sm} {Z : FuncId → Plans} (hX : XOk P w0 X) (hS : ∀ f g, S f = some g → SumOk P w0 f g) (hZ : ∀ f fn c, S f = none → P.funcs[f]? = some fn → fn.body = some c → okCode (Z f) c = true) : ∀ fuel, CallOk P w0 (callX X P S Z fuel)
  | 0 => fun _ _ _ _ _ _ _ h _ _ => h.elim
  | n + 1 => fun f args vals m w H K h hSt ha => by
    have hd := fnC_sound hD hS hZ (callX_sound hD hX hS hZ n) f
    have h1 : (match X f with
      | some g => g (fun args H K => (fnC P S Z f).go (callX X P S Z n) args H K) args H K
      | none => (fnC P S Z f).go (callX X P S Z n) args H K) := h
    split at h1
    · rename_i g hg
      exact hX f g _ hg hd args vals m w H K h1 hSt ha
    · exact hd args vals m w H K h1 hSt ha

/-- A number is an int, and this is its remainder. -/
def G (z : Int) (n k : Nat) : Prop := (-9223372036854775808 ≤ z ∧ z < 9223372036854775808) ∧ z % (n : Int) = (k : Int)

def findN : List (Nat × Nat) → Nat → Option Nat
  | [], _ => none
  | (a, b) :: l, n => match Nat.beq n a with
    | true => some b
    | false => findN l n

/-- Pick by tables of moduli and remainders: one for inputs that are numbers, one for those that are kept as they are. -/
def pickX (t u : List (Nat × Nat)) (d : Sg) : Sg := fun args H K => match args with
  | [.c (.i 3 z), .c (.i 3 (.ofNat n))] => match findN t n with
    | some k => G z n k ∧ K (.c (.i 3 (.ofNat k))) H
    | none => d args H K
  | [.c (.r (.int .i64 z)), .c (.i 3 (.ofNat n))] => match findN u n with
    | some k => G z n k ∧ K (.c (.i 3 (.ofNat k))) H
    | none => False
  | _ => d args H K

theorem findN_in {n k : Nat} : ∀ {t : List (Nat × Nat)}, (∀ p ∈ t, 1 ≤ p.1 ∧ p.1 < 1000) → findN t n = some k → 1 ≤ n ∧ n < 1000 := by
  intro t
  induction t with
  | nil => intro _ h; cases h
  | cons p t ih =>
    intro ht h
    obtain ⟨a, b⟩ := p
    unfold findN at h
    split at h
    · rename_i e
      have := beq_eq e
      subst this
      exact ht (n, b) List.mem_cons_self
    · exact ih (fun p hp => ht p (List.mem_cons_of_mem _ hp)) h

theorem pickX_ok {w0 : Bs} {t u : List (Nat × Nat)} {d : Sg} (ht : ∀ p ∈ t, 1 ≤ p.1 ∧ p.1 < 1000) (hu : ∀ p ∈ u, 1 ≤ p.1 ∧ p.1 < 1000) (hd : SumOk Tryz.prog w0 6 d) : SumOk Tryz.prog w0 6 (pickX t u d) := by
  intro args vals m w H K h hS ha
  have main : ∀ (z : Int) (n k : Nat), 1 ≤ n ∧ n < 1000 → G z n k → K (.c (.i 3 (.ofNat k))) H → vals = [.int .i64 z, .int .i64 (n : Int)] → Calls Tryz.prog 6 vals.toArray w fun e w' => ∃ v, e = .returned v ∧ Af w0 m H K v w' := by
    rintro z n k hn hG hK rfl
    refine (Pick_c w z (n : Int) hG.1 (by omega)).mono ?_
    rintro e w' ⟨v, he, hv, rfl⟩
    rw [if_neg (by omega), hG.2] at hv
    subst hv
    exact ⟨_, he, m, .c (.i 3 (.ofNat k)), H, Le.refl m, rfl, hS, Gh.refl m H, hK⟩
  unfold pickX at h
  split at h
  · rename_i z n
    split at h
    · rename_i k hk
      match vals, ha with
      | [u0, u1], ⟨r0, r1, _⟩ =>
      have r0 : u0 = .int .i64 z := r0
      have r1 : u1 = .int .i64 (n : Int) := r1
      exact main z n k (findN_in ht hk) h.1 h.2 (by rw [r0, r1])
    · exact hd _ vals m w H K h hS ha
  · rename_i z n
    split at h
    · rename_i k hk
      match vals, ha with
      | [u0, u1], ⟨r0, r1, _⟩ =>
      have r0 : u0 = .int .i64 z := r0
      have r1 : u1 = .int .i64 (n : Int) := r1
      exact main z n k (findN_in hu hk) h.1 h.2 (by rw [r0, r1])
    · exact h.elim
  · exact hd args vals m w H K h hS ha

def xPick (t u : List (Nat × Nat)) : Xm := fun f => match Nat.beq f 6 with
  | true => some (pickX t u)
  | false => none

theorem xPick_ok {w0 : Bs} {t u : List (Nat × Nat)} (ht : ∀ p ∈ t, 1 ≤ p.1 ∧ p.1 < 1000) (hu : ∀ p ∈ u, 1 ≤ p.1 ∧ p.1 < 1000) : XOk Tryz.prog w0 (xPick t u) := by
  intro f g d h hd
  unfold xPick at h
  split at h
  · rename_i e
    cases h
    have := beq_eq e
    subst this
    exact pickX_ok ht hu hd
  · cases h

/-- What is always so: true, and nothing that was there has changed. -/
def sumTrue : Sg := fun args H K => match args with
  | [] => K (.c (.b true)) H
  | _ => False

theorem sumTrue_ok {w0 : Bs} {f : FuncId} (hf : ∀ w, Does f [] w fun v w' => v = .bool true ∧ New w w') : SumOk Tryz.prog w0 f sumTrue := by
  intro args vals m w H K h hS ha
  cases args with
  | cons => exact h.elim
  | nil =>
  cases vals with
  | cons => exact ha.elim
  | nil =>
  refine (hf w).mono ?_
  rintro e w' ⟨v, he, rfl, hn⟩
  exact ⟨_, he, m, .c (.b true), H, Le.refl m, rfl, ⟨hS.hr.keepN hn, hS.new.trans hn fun _ _ h => h.elim⟩, Gh.refl m H, h⟩

/-- A law of numbers, all of it by the semantics. -/
theorem runX_true {w : World} {X : Xm} {l : List Nat} {S : Sm} {Z : FuncId → Plans} (hX : XOk Tryz.prog ⟨w, fun _ => False⟩ X) (hS : ∀ f g, S f = some g → SumOk Tryz.prog ⟨w, fun _ => False⟩ f g) (hl : l.all (okF Tryz.prog Z) = true) {fuel f : Nat} {args : List V} {vals : List Value} (ha : All2 (VR fun _ => none) args vals)
    (hk : callX X Tryz.prog (onlyF l S) Z fuel f args hp0 (fun v _ => onB v True False)) : Does f vals w fun v w' => v = .bool true ∧ New w w' := by
  refine (callX_sound (draw_ok mix) hX (onlyF_sum hS) (onlyF_ok hl) fuel f args vals _ w hp0 _ hk (St.first w) ha).mono ?_
  rintro e w' ⟨v, he, m', v', H', _, hv, hS', _, hR⟩
  obtain ⟨b, rfl, hb⟩ := onB_iff hR
  rcases hb with ⟨rfl, _⟩ | ⟨_, hf⟩
  · exact ⟨v, he, hv, hS'.new⟩
  · exact hf.elim
end
end Go.Mx
