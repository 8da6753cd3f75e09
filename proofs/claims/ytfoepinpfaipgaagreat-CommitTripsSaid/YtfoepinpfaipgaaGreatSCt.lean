/- A summary of the function that returns the table of the checksum: the kernel runs it once. -/
import Derived.Test.YtfoepinpfaipgaaGreatSPc
import Derived.Test.YtfoepinpfaipgaaGreatPlans
set_option linter.unusedVariables false
namespace Go.Mx
open Go.Eng Go.Proofs Go.Proofs.YtfoepinpfaipgaaGreat

theorem HR.new {m : Mp} {B : Bs} {w w' : World} {H : Hp} (h : HR m B w H) (hk : New w w') : HR m B w' H :=
  ⟨Nat.le_trans h.size hk.size, h.lim, h.unm, h.dead, fun o b N hm => ⟨(h.blk o b N hm).1, (h.blk o b N hm).2.keep hk (fun _ _ h => h.elim) (fun _ h => h.elim) (Le.refl m) rfl⟩,
    fun o wr n dp d b N hg hm => by
      obtain ⟨cs, T, h1, h2⟩ := h.ob o wr n dp d b N hg hm
      exact ⟨cs, T, New.blk hk h1, h2⟩, h.inj⟩

noncomputable def crcStep (n : Nat) : Nat → Nat := @Nat.rec (fun _ => Nat → Nat) (fun r => r) (fun _ ih r => ih (@Bool.rec (fun _ => Nat) (Nat.div r 2) (Nat.xor (Nat.div r 2) 0xC96C5795D7870F42) (Nat.beq (Nat.mod r 2) 1))) n
noncomputable def tabN : List Nat := (List.range 256).map fun i => crcStep 8 i
noncomputable def tabC : List C := tabN.map fun n => .i 7 (.ofNat n)

def chkN8 : List C → List Nat → Prop
  | [], [] => True
  | .i k (.ofNat n) :: l, m :: ms => iff (Nat.beq k 7) (iff (Nat.beq n m) (chkN8 l ms) False) False
  | _, _ => False

theorem chkN8_iff {m : Mp} : ∀ (l : List C) (ms : List Nat) (cs : List Value), chkN8 l ms → All2 (CR m) l cs → cs = ms.map fun n => Value.int .u64 ((n : Nat) : Int)
  | [], ms, cs, h, h2 => by
    cases ms with
    | nil => cases cs with
      | nil => rfl
      | cons => exact h2.elim
    | cons => exact h.elim
  | x :: l, ms, cs, h, h2 => by
    cases ms with
    | nil => cases x with
      | i k z => cases z <;> exact h.elim
      | _ => exact h.elim
    | cons k ms => cases cs with
      | nil => exact h2.elim
      | cons c cs =>
        obtain ⟨h1, h2⟩ := h2
        cases x with
        | i q z => cases z with
          | ofNat n =>
            have h0 : iff (Nat.beq q 7) (iff (Nat.beq n k) (chkN8 l ms) False) False := h
            obtain ⟨eq, h0⟩ := iff_t h0
            obtain ⟨e, h3⟩ := iff_t h0
            have e := beq_eq e
            have eq := beq_eq eq
            subst e eq
            have h1 : c = .int .u64 (n : Int) := h1
            rw [h1, chkN8_iff l ms cs h3 h2]
            rfl
          | negSucc => exact h.elim
        | _ => exact h.elim

theorem tabN_len : tabN.length = 256 := by
  unfold tabN
  rw [List.length_map, List.length_range]

noncomputable def needT : List Nat := [178]
noncomputable def noS : Sm := fun _ => none
theorem needT_ok : needT.all (okF Tryz.prog plans) = true := by kernel_rfl
set_option maxRecDepth 100000 in
theorem runT : callK Tryz.prog (onlyF needT noS) plans 50 178 [] hp0 (fun v _ => onA v fun dp d o n => iff (Nat.beq n 256) (cellsK dp d n o fun l => chkN8 l tabN) False) = True := by kernel_rfl

theorem run_K {P : Program} {w : World} (hm : P.follows .mixedOrders = true) {l : List Nat} {S : Sm} {Z : FuncId → Plans} (hS : ∀ f g, S f = some g → SumOk P ⟨w, fun _ => False⟩ f g) (hl : l.all (okF P Z) = true) {fuel f : Nat} {K : KV} (hk : callK P (onlyF l S) Z fuel f [] hp0 K = True) :
    Calls P f #[] w fun e w' => ∃ v m' v' H', e = .returned v ∧ VR m' v' v ∧ K v' H' ∧ New w w' := by
  refine (callK_sound (draw_ok hm) (onlyF_sum hS) (onlyF_ok hl) fuel f [] [] _ w hp0 _ (of_eq_true hk) (St.first w) trivial).mono ?_
  rintro e w' ⟨v, he, m', v', H', _, hv, hS', _, hR⟩
  exact ⟨v, m', v', H', he, hv, hR, hS'.new⟩

theorem table_c (w : World) : Does 178 [] w fun v w' => v = .agg (tabN.map fun n => Value.int .u64 ((n : Nat) : Int)).toArray ∧ New w w' := by
  have hk := run_K (w := w) mix (fun f g h => by cases h) needT_ok runT
  refine hk.mono ?_
  rintro e w' ⟨v, m', v', H', he, hv, hR, hn⟩
  obtain ⟨dp, d, o, n, rfl, h1⟩ := onA_iff hR
  obtain ⟨hn2, h2⟩ := iff_t h1
  rw [cellsK_iff] at h2
  obtain ⟨cs, rfl, hl, ht⟩ := hv
  refine ⟨_, he, ?_, hn⟩
  rw [chkN8_iff _ _ _ h2 (all2_cells hl fun i u hi => (ht.2 i u hi).1)]

noncomputable def sumTable (args : List V) (H : Hp) (K : KV) : Prop := match args with
  | [] => putsK 4 tabC (uni .un 4) 0 fun d => K (.a 4 d 0 256) H
  | _ => False

theorem LR_tab (m : Mp) : ∀ l : List Nat, LR m (l.map fun n => C.i 7 (.ofNat n)) (l.map fun n => Value.int .u64 ((n : Nat) : Int))
  | [] => ⟨rfl, fun i u h => by simp at h⟩
  | n :: l => by
    obtain ⟨h1, h2⟩ := LR_tab m l
    refine ⟨by simp, fun i u h => ?_⟩
    cases i with
    | zero => simp at h; exact ⟨_, rfl, h.symm, rfl⟩
    | succ i => simp at h; exact h2 i u (by simpa using h)

theorem sumTable_ok (w0 : Bs) : SumOk Tryz.prog w0 178 sumTable := by
  intro args vals m w H K h hS ha
  cases args with
  | cons => exact h.elim
  | nil =>
  cases vals with
  | cons => exact ha.elim
  | nil =>
  simp only [sumTable] at h
  rw [putsK_iff] at h
  have h1 := h
  refine (table_c w).mono ?_
  rintro e w' ⟨v, he, rfl, hn⟩
  refine ⟨_, he, m, .a 4 _ 0 256, H, Le.refl m, ⟨_, rfl, by rw [List.length_map, tabN_len], ?_⟩, ⟨hS.hr.new hn, hS.new.trans hn fun _ _ h => h.elim⟩, Gh.refl m H, h1⟩
  have hl : ((tabN.map fun n => Value.int .u64 ((n : Nat) : Int))).length = 256 := by rw [List.length_map, tabN_len]
  exact lputs_rel (LR_tab m tabN) hl (by omega)

noncomputable def S1 : Sm := fun f => match Nat.beq f 97 with | true => some sumPieces | false => (match Nat.beq f 178 with | true => some sumTable | false => none)
theorem S1_ok (w : Bs) : ∀ f g, S1 f = some g → SumOk Tryz.prog w f g := by
  intro f g h
  unfold S1 at h
  split at h
  · rename_i e
    cases h
    have := beq_eq e
    subst this
    exact sumPieces_ok w
  · split at h
    · rename_i e
      cases h
      have := beq_eq e
      subst this
      exact sumTable_ok w
    · cases h
end Go.Mx
