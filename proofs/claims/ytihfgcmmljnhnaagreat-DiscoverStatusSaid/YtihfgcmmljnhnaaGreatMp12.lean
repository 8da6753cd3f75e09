/- Functions. -/
import Derived.Test.YtihfgcmmljnhnaaGreatMp11
set_option linter.unusedVariables false
namespace Go.Mx
open Go.Eng

section
variable {P : Program} {e : Nat} {w0 : World} {call : Cal}

theorem ER.env0 (m : Mp) (e : Nat) : ER m e (env0 e) (List.replicate e undef) := by
  refine ⟨List.length_replicate, fun t ht => ?_⟩
  have h1 : lget (dpN e) (Mx.env0 e) t = .c .un := lget_uni _ _ _
  have h2 : (List.replicate e undef).getD t undef = undef := by
    rw [List.getD_eq_getElem?_getD, List.getElem?_replicate]
    split <;> rfl
  rw [h1, h2]
  exact rfl

theorem envK_iff (he : e ≤ 16384) {m : Mp} : ∀ {args : List V} {vals pre : List Value} {t : Env e} {K : Env e → Prop}, envK e args pre.length t K → All2 (VR m) args vals → pre.length + vals.length ≤ e →
    ER m e t (pre ++ List.replicate (e - pre.length) undef) → ∃ t', K t' ∧ ER m e t' (pre ++ vals ++ List.replicate (e - (pre.length + vals.length)) undef)
  | [], [], pre, t, K, h, _, _, hE => ⟨t, h, by simpa using hE⟩
  | a :: args, v :: vals, pre, t, K, h, ⟨h1, h2⟩, hl, hE => by
    have h0 : (setE e pre.length).go t a fun t => envK e args (Nat.succ pre.length) t K := h
    obtain ⟨hlt, h3⟩ := setE_iff h0
    have hE' := hE.set he hlt h1
    have e1 : (pre ++ List.replicate (e - pre.length) undef).set pre.length v = (pre ++ [v]) ++ List.replicate (e - (pre ++ [v]).length) undef := by
      obtain ⟨k, hk⟩ : ∃ k, e - pre.length = k + 1 := ⟨e - pre.length - 1, by omega⟩
      have hk' : e - (pre ++ [v]).length = k := by simp; omega
      rw [hk, hk', List.replicate_succ, List.set_append, if_neg (Nat.lt_irrefl _), Nat.sub_self, List.set_cons_zero, List.append_assoc]
      rfl
    rw [e1] at hE'
    have h4 : envK e args (pre ++ [v]).length (lset (dpN e) t pre.length a) K := by
      rw [List.length_append]
      exact h3
    simp only [List.length_cons] at hl
    obtain ⟨t', hk, hE2⟩ := envK_iff he h4 h2 (by simp; omega) hE'
    refine ⟨t', hk, ?_⟩
    have e2 : pre ++ [v] ++ vals = pre ++ v :: vals := by simp
    have e3 : (pre ++ [v]).length + vals.length = pre.length + (v :: vals).length := by simp; omega
    rw [e2, e3] at hE2
    exact hE2

theorem load_asAddr {t : TypeId} {x v : Value} {w w' : World} (h : (Instr.loadAt t x).run P w = .ok v w') : (do loadVar t (← asAddr x) : Sem Value).run P w = .ok v w' := by
  unfold Instr.loadAt at h
  cases x with
  | pointer a => cases a with
    | some a => exact h
    | none => cases h
  | _ => cases h

theorem resC_sound {env : Env e} {H : Hp} : ∀ {rs : List ResultVar} {K : List V → Prop}, (resC P e rs).go env H K → ∃ vs, K vs ∧ ∀ m B w renv, HR m B w H → ER m e env renv →
    ∃ rvs, (rs.mapM fun | .tmp t => pure (renv.toArray.getD t undef) | .cell a t => do loadVar t (← asAddr (renv.toArray.getD a undef)) : Sem (List Value)).run P w = .ok rvs w ∧ All2 (VR m) vs rvs
  | [], K, h => ⟨[], h, fun m B w renv _ _ => ⟨[], rfl, trivial⟩⟩
  | .tmp t :: rs, K, h => by
    have h0 : ((getE e t).bind fun g => (resC P e rs).bind fun h => ⟨fun env H K => g env fun v => h env H fun vs => K (v :: vs)⟩ : Bx (Env e → Hp → (List V → Prop) → Prop)).go env H K := h
    rw [bind_go, bind_go, mk_go] at h0
    obtain ⟨ht, h1⟩ := getE_iff h0
    obtain ⟨vs, hk, hr⟩ := resC_sound h1
    refine ⟨_, hk, fun m B w renv hH hE => ?_⟩
    obtain ⟨rvs, hrun, hrel⟩ := hr m B w renv hH hE
    refine ⟨renv.getD t undef :: rvs, ?_, hE.slot t ht, hrel⟩
    rw [List.mapM_cons]
    simp only [pure_bind, Sem.run_bind, hrun, Result.andThen_ok, Sem.run_pure]
    simp [List.getD_eq_getElem?_getD]
  | .cell a t :: rs, K, h => by
    have h0 : ((loadC P e t (.tmp a)).bind fun l => (resC P e rs).bind fun h => ⟨fun env H K => l env H fun v => h env H fun vs => K (v :: vs)⟩ : Bx (Env e → Hp → (List V → Prop) → Prop)).go env H K := h
    rw [bind_go, bind_go, mk_go] at h0
    obtain ⟨v, h1, hl⟩ := loadC_sound h0
    obtain ⟨vs, hk, hr⟩ := resC_sound h1
    refine ⟨_, hk, fun m B w renv hH hE => ?_⟩
    obtain ⟨rvs, hrun, hrel⟩ := hr m B w renv hH hE
    obtain ⟨rv, hld, hv⟩ := hl m B w renv hH fun y _ => hE.slot y
    refine ⟨rv :: rvs, ?_, hv, hrel⟩
    have hld' := load_asAddr hld
    rw [List.mapM_cons]
    have e1 : renv.toArray.getD a undef = ev renv (.tmp a) := by simp [ev, List.getD_eq_getElem?_getD]
    simp only [e1] at hrun ⊢
    rw [Sem.run_bind, hld']
    simp only [Result.andThen_ok, Sem.run_bind, hrun, Sem.run_pure]

theorem results_of {fn : Func} {renv : List Value} {w : World} {rvs : List Value} (hr : (fn.results.toList.mapM fun | .tmp t => pure (renv.toArray.getD t undef) | .cell a t => do loadVar t (← asAddr (renv.toArray.getD a undef)) : Sem (List Value)).run P w = .ok rvs w) :
    (results fn renv.toArray).run P w = .ok (retV rvs) w := by
  unfold results
  rw [Array.mapM_eq_mapM_toList]
  simp only [Sem.run_bind, Sem.run_map, Sem.run_pure]
  refine Eq.trans (congrArg (fun r : Result (List Value) => (r.andThen fun a w' => Result.ok a.toArray w').andThen fun a w' => Result.ok (if h : a.size = 1 then a[0] else Value.tuple a) w') hr) ?_
  simp only [Result.andThen_ok]
  congr 1
  match rvs with
  | [] => rfl
  | [v] => rfl
  | v :: u :: r => simp [retV]

theorem noT_rel {m : Mp} : ∀ {vs : List V} {rvs : List Value}, noT vs = true → All2 (VR m) vs rvs → All2 (VR0 m) vs rvs
  | [], [], _, _ => trivial
  | v :: vs, r :: rvs, hn, ⟨a, b⟩ => by
    unfold noT at hn
    cases v with
    | t l => cases hn
    | c c => exact ⟨a, noT_rel hn b⟩
    | a dp d o n => exact ⟨a, noT_rel hn b⟩

theorem retK_iff {m : Mp} {vs : List V} {rvs : List Value} {H : Hp} {K : KV} (h : retK vs H K) (hr : All2 (VR m) vs rvs) : ∃ v, VR m v (retV rvs) ∧ K v H := by
  unfold retK at h
  split at h
  · rename_i v
    match rvs, hr with
    | [r], hr => exact ⟨v, hr.1, h⟩
  · rename_i hne
    obtain ⟨hn, hk⟩ := iff_t h
    refine ⟨.t vs, ⟨rvs, ?_, noT_rel hn hr⟩, hk⟩
    match vs, rvs, hr, hne with
    | [], [], _, _ => rfl
    | [v], [r], _, hne => exact absurd rfl (hne v)
    | _ :: _ :: _, _ :: _ :: _, _, _ => rfl

/-- A summary of a function says what it does. -/
def SumOk (P : Program) (w0 : World) (f : FuncId) (g : List V → Hp → KV → Prop) : Prop :=
  ∀ (args : List V) (vals : List Value) (m : Mp) (w : World) (H : Hp) (K : KV), g args H K → St w0 m w H → All2 (VR m) args vals → Calls P f vals.toArray w fun e w' => ∃ v, e = .returned v ∧ Af w0 m H K v w'

theorem All2.length {α β : Type} {R : α → β → Prop} : ∀ {xs : List α} {ys : List β}, All2 R xs ys → xs.length = ys.length
  | [], [], _ => rfl
  | _ :: _, _ :: _, ⟨_, h⟩ => by simp [All2.length h]

theorem fnC_sound (hD : DrawOk P) {S : Sm} {Z : FuncId → Plans} (hS : ∀ f g, S f = some g → SumOk P w0 f g) (hZ : ∀ f fn c, S f = none → P.funcs[f]? = some fn → fn.body = some c → okCode (Z f) c = true) (hC : CallOk P w0 call) (f : FuncId) : SumOk P w0 f ((fnC P S Z f).go call) := by
  intro args vals m w H K h hSt hargs
  unfold fnC at h
  split at h
  · rename_i g hg
    exact hS f g hg args vals m w H K h hSt hargs
  · rename_i hg
    split at h
    rotate_left
    · exact h.elim
    rename_i fn hf
    split at h
    rotate_left
    · exact h.elim
    rename_i c hc
    rw [fNB_eq] at h
    split at h
    · exact h.elim
    · rename_i hle
      have he : fn.ntmps ≤ 16384 := ble_le hle
      rw [bind_go, bind_go, mk_go] at h
      obtain ⟨hlen, h1⟩ := iff_t h
      have hlen : args.length ≤ fn.ntmps := ble_le hlen
      have hll := hargs.length
      obtain ⟨t, h2, hE⟩ := envK_iff (m := m) (vals := vals) (pre := []) he h1 hargs (by simp; omega) (by simpa using ER.env0 m fn.ntmps)
      have hE : ER m fn.ntmps t (vals ++ List.replicate (fn.ntmps - vals.length) undef) := by simpa using hE
      refine calls_of_wp hf hc ?_
      have h3 := codeC_sound hD he hC c t H _ _ w m (hZ f fn c hg hf hc) h2 hSt hE
      have h4 : act (vals ++ List.replicate (fn.ntmps - vals.length) undef) = { tmps := vals.toArray ++ Array.replicate (fn.ntmps - vals.toArray.size) undef, defers := [] } := by
        unfold act
        congr 1
        simp
      unfold codeW at h3
      rw [h4] at h3
      have fin : ∀ {renv : List Value} {w' : World}, Bh w0 m H (fun env H => (resC P fn.ntmps fn.results.toList).go env H fun vs => retK vs H K) renv w' → ∃ v, (results fn renv.toArray).run P w' = .ok v w' ∧ Af w0 m H K v w' := by
        intro renv w' hB
        obtain ⟨m', env', H', hm, hS', hE', hG, hk⟩ := hB
        obtain ⟨vs, hk1, hr⟩ := resC_sound hk
        obtain ⟨rvs, hrun, hrel⟩ := hr m' w0.heap.size w' renv hS'.hr hE'
        obtain ⟨v, hv, hk2⟩ := retK_iff hk1 hrel
        exact ⟨_, results_of hrun, m', v, H', hm, hv, hS', hG, hk2⟩
      refine wp_mono h3 fun x a w' hq0 => ?_
      obtain ⟨hx, env', ha, hq⟩ := liftQ_env hq0
      subst ha
      clear hq0
      cases x with
      | normal => obtain ⟨v, hv, hA⟩ := fin hq; exact ⟨rfl, v, hv, v, rfl, hA⟩
      | ret => obtain ⟨v, hv, hA⟩ := fin hq; exact ⟨rfl, v, hv, v, rfl, hA⟩
      | panic c => exact absurd rfl (hx.1 c)
      | outgrown => exact absurd rfl hx.2
      | exit i => obtain ⟨_, _, _, _, _, _, _, hk⟩ := hq; exact hk.elim
      | goto i => exact hq.elim

theorem callK_sound (hD : DrawOk P) {S : Sm} {Z : FuncId → Plans} (hS : ∀ f g, S f = some g → SumOk P w0 f g) (hZ : ∀ f fn c, S f = none → P.funcs[f]? = some fn → fn.body = some c → okCode (Z f) c = true) : ∀ fuel, CallOk P w0 (callK P S Z fuel)
  | 0 => fun _ _ _ _ _ _ _ h _ _ => h.elim
  | n + 1 => fun f args vals m w H K h hSt ha => fnC_sound hD hS hZ (callK_sound hD hS hZ n) f args vals m w H K h hSt ha

/-- A world of which nothing is known yet. -/
theorem St.first (w : World) : St w (fun _ => none) w hp0 := by
  refine ⟨⟨Nat.le_refl _, by show (0 : Nat) ≤ 16384; omega, fun _ _ => rfl, fun o _ _ => lget_uni _ _ _, ?_, ?_, ?_⟩, Keep.refl _ _⟩
  · intro o b N h; cases h
  · intro o wr n dp d b N _ h; cases h
  · intro o o' wr n dp d wr' n' dp' d' b N N' _ _ h; cases h

/-- **What a closed run of the semantics says of a call.** -/
theorem run_sound (hD : DrawOk P) {S : Sm} {Z : FuncId → Plans} {w : World} (hS : ∀ f g, S f = some g → SumOk P w f g) (hZ : ∀ f fn c, S f = none → P.funcs[f]? = some fn → fn.body = some c → okCode (Z f) c = true) {fuel f : Nat} {R : Value → Prop}
    (hk : callK P S Z fuel f [] hp0 fun v _ => ∀ m rv, VR m v rv → R rv) : Calls P f #[] w fun e w' => ∃ v, e = .returned v ∧ R v ∧ New w w' := by
  refine (callK_sound hD hS hZ fuel f [] [] _ w hp0 _ hk (St.first w) trivial).mono ?_
  rintro e w' ⟨v, he, m', v', H', hm, hv, hS', hG, hR⟩
  exact ⟨v, he, hR _ _ hv, hS'.new⟩
end
end Go.Mx
