/- Closed runs: what the kernel is asked. -/
import Derived.Test.YtihfgcmmljnhnaaGreatMp18
set_option linter.unusedVariables false
namespace Go.Mx
open Go.Eng

/-- Only the functions of a list are run by their code, those of a table by their summaries, others not at all. -/
def onlyF (l : List Nat) (S : Sm) : Sm := fun f => match S f with
  | some g => some g
  | none => match inL l f with
    | true => none
    | false => some fun _ _ _ => False

noncomputable def okF (P : Program) (Z : FuncId → Plans) (f : FuncId) : Bool := match P.funcs[f]? with
  | some fn => match fn.body with
    | some c => okCode (Z f) c
    | none => true
  | none => true

section
variable {P : Program} {w : World}

theorem onlyF_sum {l : List Nat} {S : Sm} (hS : ∀ f g, S f = some g → SumOk P w f g) : ∀ f g, onlyF l S f = some g → SumOk P w f g := by
  intro f g h
  unfold onlyF at h
  split at h
  · rename_i g' hg
    cases h
    exact hS f _ hg
  · split at h
    · cases h
    · cases h
      intro args vals m w H K hk
      exact hk.elim

theorem onlyF_ok {l : List Nat} {S : Sm} {Z : FuncId → Plans} (h : l.all (okF P Z) = true) : ∀ f fn c, onlyF l S f = none → P.funcs[f]? = some fn → fn.body = some c → okCode (Z f) c = true := by
  intro f fn c hn hf hc
  unfold onlyF at hn
  split at hn
  · cases hn
  · split at hn
    · rename_i hin
      have h1 := List.all_eq_true.1 h f ((inL_iff _ _).1 hin)
      unfold okF at h1
      rw [hf] at h1
      simp only [hc] at h1
      exact h1
    · cases hn

/-- **A closed run that ends with true.** -/
theorem run_true (hm : P.follows .mixedOrders = true) {l : List Nat} {S : Sm} {Z : FuncId → Plans} (hS : ∀ f g, S f = some g → SumOk P w f g) (hl : l.all (okF P Z) = true) {fuel f : Nat} (hk : callK P (onlyF l S) Z fuel f [] hp0 (fun v _ => onB v True False) = True) :
    Calls P f #[] w fun e w' => ∃ v, e = .returned v ∧ v = .bool true ∧ New w w' := by
  refine (callK_sound (draw_ok hm) (onlyF_sum hS) (onlyF_ok hl) fuel f [] [] _ w hp0 _ (of_eq_true hk) (St.first w) trivial).mono ?_
  rintro e w' ⟨v, he, m', v', H', _, hv, hS', _, hR⟩
  obtain ⟨b, rfl, hb⟩ := onB_iff hR
  rcases hb with ⟨rfl, _⟩ | ⟨_, hf⟩
  · exact ⟨v, he, hv, hS'.new⟩
  · exact hf.elim
end
end Go.Mx
