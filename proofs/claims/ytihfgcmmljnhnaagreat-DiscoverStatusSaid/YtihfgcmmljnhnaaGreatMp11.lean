/- Regions in the order that is written, code, functions. -/
import Derived.Test.YtihfgcmmljnhnaaGreatMp10
import Derived.Test.YtihfgcmmljnhnaaGreatMx2
set_option linter.unusedVariables false
namespace Go.Mx
open Go.Eng

structure ER (m : Mp) (e : Nat) (env : Env e) (renv : List Value) : Prop where
  len : renv.length = e
  slot : ∀ t, SlR m e env renv t

/-- Behind a code. -/
def Bh {e : Nat} (w0 : World) (m : Mp) (H : Hp) (K : Env e → Hp → Prop) (renv' : List Value) (w' : World) : Prop :=
  ∃ m' env' H', Le m m' ∧ St w0 m' w' H' ∧ ER m' e env' renv' ∧ Gh m m' H H' ∧ K env' H'

section
variable {P : Program} {e : Nat} {env : Env e} {o : Oper} {w0 : World} {m : Mp} {w : World} {H : Hp} {renv : List Value} {call : Cal}

theorem ER.ops (h : ER m e env renv) (os : List Operand) : OpsR m e env renv os := fun x _ t _ => h.slot t
theorem ER.mono {m' : Mp} (hm : Le m m') (h : ER m e env renv) : ER m' e env renv := ⟨h.len, fun t ht => (h.slot t ht).mono hm⟩

theorem setE_iff {t : Nat} {v : V} {K : Env e → Prop} (h : (setE e t).go env v K) : t < e ∧ K (lset (dpN e) env t v) := by
  unfold setE at h
  split at h
  · rename_i hlt
    rw [setC_eq] at h
    exact ⟨ble_le hlt, h⟩
  · exact h.elim

theorem ER.set (he : e ≤ 16384) (h : ER m e env renv) {t : Nat} {v : V} {rv : Value} (ht : t < e) (hv : VR m v rv) : ER m e (lset (dpN e) env t v) (renv.set t rv) := by
  have hdp := dpN_le he
  refine ⟨by rw [List.length_set]; exact h.len, fun s hs => ?_⟩
  rw [lget_lset _ _ _ _ _ (by omega) (by omega), List.getD_eq_getElem?_getD, List.getElem?_set]
  by_cases hst : s = t
  · subst hst
    rw [if_pos rfl, if_pos rfl, if_pos (by rw [h.len]; exact hs)]
    exact hv
  · rw [if_neg hst, if_neg (fun e => hst e.symm), ← List.getD_eq_getElem?_getD]
    exact h.slot s hs

theorem putC_iff {d : Option Tmp} {v : V} {K : Env e → Prop} (he : e ≤ 16384) (h : (putC e d).go env v K) : ∃ env', K env' ∧ ∀ m renv rv, ER m e env renv → VR m v rv → ER m e env' (put renv d rv) := by
  cases d with
  | none => exact ⟨env, h, fun m renv rv hE _ => hE⟩
  | some d =>
    obtain ⟨ht, hk⟩ := setE_iff (show (setE e d).go env v K from h)
    exact ⟨_, hk, fun m renv rv hE hv => hE.set he ht hv⟩

theorem Bh.of {K : Env e → Hp → Prop} {m' : Mp} {H' : Hp} {renv' : List Value} {w' : World} (hm : Le m m') (hG : Gh m m' H H') (h : Bh w0 m' H' K renv' w') : Bh w0 m H K renv' w' := by
  obtain ⟨m2, env2, H2, h1, h2, h3, h4, h5⟩ := h
  exact ⟨m2, env2, H2, hm.trans h1, h2, h3, hG.trans h4, h5⟩

theorem gdK_iff {want : Bool} {x : V} {run skip : Prop} (h : gdK want x run skip) : (x = .c .un ∧ skip) ∨ ∃ b, x = .c (.b b) ∧ ((b = want ∧ run) ∨ (b ≠ want ∧ skip)) := by
  cases x with
  | c c => cases c with
    | un => exact .inl ⟨rfl, h⟩
    | b b => refine .inr ⟨b, rfl, ?_⟩; cases b <;> cases want <;> first | exact .inl ⟨rfl, h⟩ | exact .inr ⟨by simp, h⟩
    | _ => exact h.elim
  | _ => exact h.elim

theorem getE_iff {t : Nat} {K : V → Prop} (h : (getE e t).go env K) : t < e ∧ K (lget (dpN e) env t) := by
  unfold getE at h
  split at h
  · rename_i hlt
    rw [getC_eq] at h
    exact ⟨ble_le hlt, h⟩
  · exact h.elim

theorem opsC_sound (he : e ≤ 16384) (hC : CallOk P w0 call) {all : List Oper} {Q : Exit → Act → World → Prop} {K : Env e → Hp → Prop} : ∀ (ops : List Oper) {env : Env e} {H : Hp} {renv : List Value} {w : World} {m : Mp},
    (opsC P e all ops).go call env H K → St w0 m w H → ER m e env renv → (∀ renv' w', Bh w0 m H K renv' w' → Q .normal (act renv') w') → wpListIn Fence.wide 0 P all.toArray Q ops (act renv) w
  | [], env, H, renv, w, m, h, hS, hE, hQ => hQ _ _ ⟨m, env, H, Le.refl m, hS, hE, Gh.refl m H, h⟩
  | o :: rest, env, H, renv, w, m, h, hS, hE, hQ => by
    have h0 : ((opC P e o.op).bind fun r => (opsC P e all rest).bind fun nx => thenC P e all o r nx).go call env H K := h
    rw [bind_go, bind_go] at h0
    -- the rest behind a value
    have nxt : ∀ {m' : Mp} {v : V} {rv : Value} {H' : Hp} {w' : World}, Le m m' → VR m' v rv → St w0 m' w' H' → Gh m m' H H' → (putC e o.dst).go env v (fun env => (opsC P e all rest).go call env H' K) →
        wpListIn Fence.wide 0 P all.toArray Q rest (act (put renv o.dst rv)) w' := by
      intro m' v rv H' w' hm hv hS' hG hp
      obtain ⟨env', hk, hE'⟩ := putC_iff he hp
      exact opsC_sound he hC rest hk hS' (hE' _ _ _ (hE.mono hm) hv) fun renv' w' hB => hQ _ _ (hB.of hm hG)
    have run : (opC P e o.op).go call env H (fun v H => (putC e o.dst).go env v fun env => (opsC P e all rest).go call env H K) → o.wpIn Fence.wide 0 P (act renv) w (fun a w => wpListIn Fence.wide 0 P all.toArray Q rest a w) Q := by
      intro hr
      refine does_wpIn (opC_sound hC hr hS (hE.ops _)) fun v w' hA => ?_
      obtain ⟨m', v', H', hm, hv, hS', hG, hk⟩ := hA
      exact nxt hm hv hS' hG hk
    have skip : (putC e o.dst).go env (.c .un) (fun env => (opsC P e all rest).go call env H K) → wpListIn Fence.wide 0 P all.toArray Q rest (act (put renv o.dst undef)) w := fun hs => nxt (Le.refl m) (show VR m (.c .un) undef from rfl) hS (Gh.refl m H) hs
    unfold thenC at h0
    unfold wpListIn
    split at h0
    · rename_i hg
      rw [bind_go, mk_go] at h0
      rw [if_pos (wanted_none hg)]
      exact run h0
    · rename_i j want hg
      split at h0
      · rename_i d hd
        rw [bind_go, bind_go, mk_go] at h0
        obtain ⟨hde, h1⟩ := getE_iff h0
        have hy := yielded_act (env := renv) hd
        have hslot := hE.slot d hde
        have hget : renv[d]? = some (renv.getD d undef) := by
          rw [List.getD_eq_getElem?_getD, List.getElem?_eq_getElem (by rw [hE.len]; exact hde)]
          rfl
        rcases gdK_iff h1 with ⟨hx, h2⟩ | ⟨b, hx, ⟨hb, h2⟩ | ⟨hb, h2⟩⟩
        · rw [hx] at hslot
          have hv : renv.getD d undef = undef := hslot
          rw [hv] at hget
          rw [if_neg (by simp [Region.wanted, hg, hy, hget, undef]), put_act]
          exact ⟨fun _ _ => trivial, skip h2⟩
        · rw [hx] at hslot
          have hv : renv.getD d undef = .bool b := hslot
          rw [hv] at hget
          rw [if_pos (by simp [Region.wanted, hg, hy, hget, hb])]
          exact run h2
        · rw [hx] at hslot
          have hv : renv.getD d undef = .bool b := hslot
          rw [hv] at hget
          rw [if_neg (by simp [Region.wanted, hg, hy, hget, hb]), put_act]
          exact ⟨fun _ _ => trivial, skip h2⟩
      · exact h0.elim
end

/-! ### Code -/

/-- What is behind a code, by its exit. -/
def KQ {e : Nat} (w0 : World) (m : Mp) (H : Hp) (K : KE e) : Exit → List Value → World → Prop
  | .normal, renv, w => Bh w0 m H (K .nrm) renv w
  | .exit i, renv, w => Bh w0 m H (K (.exit i)) renv w
  | .ret, renv, w => Bh w0 m H (K .ret) renv w
  | _, _, _ => False

/-- Regions whose operations may come in any order do what the semantics says. -/
def DrawOk (P : Program) : Prop := ∀ (e : Nat) (he : e ≤ 16384) (Z : Plans) (id : Nat) (ops : Array Oper) (w0 : World) (call : Cal) (env : Env e) (H : Hp) (K : Env e → Hp → Prop) (renv : List Value) (w : World) (m : Mp) (Q : Exit → Act → World → Prop),
  okPlan ops.toList (planOf Z id ops.toList.length) = true → CallOk P w0 call → (drawC P e Z id ops.toList).go call env H K → St w0 m w H → ER m e env renv → (∀ renv' w', Bh w0 m H K renv' w' → Q .normal (act renv') w') → (Code.region id ops true).wp P Q (act renv) w

section
variable {P : Program} {e : Nat} {w0 : World} {call : Cal}

theorem codeW_mono {c : Code} {renv : List Value} {Q Q' : Exit → List Value → World → Prop} {w : World} (h : codeW P c renv Q w) (hq : ∀ x env w, Q x env w → Q' x env w) : codeW P c renv Q' w := by
  refine wp_mono h fun x a w' hq0 => ?_
  obtain ⟨he, env', ha, hQ⟩ := liftQ_env hq0
  subst ha
  exact liftQ_act (hq _ _ _ hQ) he

theorem KQ.of {m m' : Mp} {H H' : Hp} {K : KE e} (hm : Le m m') (hG : Gh m m' H H') : ∀ x renv w, KQ w0 m' H' K x renv w → KQ w0 m H K x renv w := by
  intro x renv w h
  cases x with
  | normal => exact Bh.of hm hG h
  | exit i => exact Bh.of hm hG h
  | ret => exact Bh.of hm hG h
  | _ => exact h.elim

theorem loopW_rule {c : Code} {env : List Value} {Q : Exit → List Value → World → Prop} {w : World}
    (I : Nat → List Value → World → Prop) (n₀ : Nat) (h0 : I n₀ env w)
    (hr : ∀ n env w, I n env w → codeW P c env (seqQ (fun env' w' => ∃ m, m < n ∧ I m env' w') Q) w) : codeW P (.loop c) env Q w := by
  refine wp_loop_n (fun n a w => ∃ env, a = act env ∧ I n env w) n₀ ⟨env, rfl, h0⟩ ?_
  rintro n a w ⟨env, rfl, hI⟩
  refine wp_mono (hr n env w hI) fun e a' w' hq0 => ?_
  obtain ⟨he, env', ha, hq⟩ := liftQ_env hq0
  subst ha
  clear hq0
  cases e with
  | normal => obtain ⟨m, hm, hI'⟩ := hq; exact ⟨m, hm, env', rfl, hI'⟩
  | panic c => exact absurd rfl (he.1 c)
  | outgrown => exact absurd rfl he.2
  | exit i => exact liftQ_act hq he
  | goto i => exact liftQ_act hq he
  | ret => exact liftQ_act hq he

theorem codeC_sound (hD : DrawOk P) (he : e ≤ 16384) (hC : CallOk P w0 call) {Z : Plans} : ∀ (c : Code) (env : Env e) (H : Hp) (K : KE e) (renv : List Value) (w : World) (m : Mp),
    okCode Z c = true → (codeC P e Z c).go call env H K → St w0 m w H → ER m e env renv → codeW P c renv (KQ w0 m H K) w
  | .skip, env, H, K, renv, w, m, hz, h, hS, hE => wp_skip (liftQ_act (show KQ w0 m H K .normal renv w from ⟨m, env, H, Le.refl m, hS, hE, Gh.refl m H, h⟩) ⟨fun _ => by simp, by simp⟩)
  | .region id ops draw, env, H, K, renv, w, m, hz, h, hS, hE => by
    have hQ : ∀ renv' w', Bh w0 m H (K .nrm) renv' w' → liftQ (KQ w0 m H K) .normal (act renv') w' := fun renv' w' hB => liftQ_act (show KQ w0 m H K .normal renv' w' from hB) ⟨fun _ => by simp, by simp⟩
    cases draw with
    | true =>
      have h0 : ((drawC P e Z id ops.toList).bind fun r => ⟨fun call env H K => r call env H (K .nrm)⟩ : Bx (CoR e)).go call env H K := h
      rw [bind_go, mk_go] at h0
      exact hD e he Z id ops w0 call env H (K .nrm) renv w m _ hz hC h0 hS hE hQ
    | false =>
      have h0 : ((opsC P e ops.toList ops.toList).bind fun r => ⟨fun call env H K => r call env H (K .nrm)⟩ : Bx (CoR e)).go call env H K := h
      rw [bind_go, mk_go] at h0
      exact wpIn_wide.1 (wpIn_region_list (n := 0) (opsC_sound he hC (all := ops.toList) ops.toList h0 hS hE hQ))
  | .seq a b, env, H, K, renv, w, m, hz, h, hS, hE => by
    have h0 : ((codeC P e Z a).bind fun a => (codeC P e Z b).bind fun b => ⟨fun call env H K => a call env H (kSeq (fun env H => b call env H K) K)⟩ : Bx (CoR e)).go call env H K := h
    rw [bind_go, bind_go, mk_go] at h0
    have hz : (okCode Z a && okCode Z b) = true := hz
    simp only [Bool.and_eq_true] at hz
    have h1 := codeC_sound hD he hC a env H _ renv w m hz.1 h0 hS hE
    refine wp_seq (wp_mono h1 fun x a' w' hq0 => ?_)
    obtain ⟨hx, env', ha, hq⟩ := liftQ_env hq0
    subst ha
    clear hq0
    cases x with
    | normal =>
      obtain ⟨m', env2, H', hm, hS', hE', hG, hk⟩ := hq
      exact codeW_mono (codeC_sound hD he hC b env2 H' K env' w' m' hz.2 hk hS' hE') (KQ.of hm hG)
    | panic c => exact absurd rfl (hx.1 c)
    | outgrown => exact absurd rfl hx.2
    | exit i => exact liftQ_act (show KQ w0 m H K (.exit i) env' w' from hq) hx
    | goto i => exact hq.elim
    | ret => exact liftQ_act (show KQ w0 m H K .ret env' w' from hq) hx
  | .cond o a b, env, H, K, renv, w, m, hz, h, hS, hE => by
    have h0 : ((evC e o).bind fun g => (codeC P e Z a).bind fun a => (codeC P e Z b).bind fun b => ⟨fun call env H K => g env fun x => onB x (a call env H K) (b call env H K)⟩ : Bx (CoR e)).go call env H K := h
    rw [bind_go, bind_go, bind_go, mk_go] at h0
    have hz : (okCode Z a && okCode Z b) = true := hz
    simp only [Bool.and_eq_true] at hz
    obtain ⟨v, h1, hv⟩ := evC_sound h0
    obtain ⟨t, rfl, h2⟩ := onB_iff h1
    have hev : ev renv o = .bool t := hv m renv fun t _ => hE.slot t
    refine wp_cond (t := t) (by rw [eval_act]; exact hev) ?_
    rcases h2 with ⟨rfl, h3⟩ | ⟨rfl, h3⟩
    · exact codeC_sound hD he hC a env H K renv w m hz.1 h3 hS hE
    · exact codeC_sound hD he hC b env H K renv w m hz.2 h3 hS hE
  | .block id c, env, H, K, renv, w, m, hz, h, hS, hE => by
    have h0 : ((codeC P e Z c).bind fun c => ⟨fun call env H K => c call env H (kBlock id K)⟩ : Bx (CoR e)).go call env H K := h
    rw [bind_go, mk_go] at h0
    have h1 := codeC_sound hD he hC c env H _ renv w m hz h0 hS hE
    refine wp_block (wp_mono h1 fun x a' w' hq0 => ?_)
    obtain ⟨hx, env', ha, hq⟩ := liftQ_env hq0
    subst ha
    clear hq0
    cases x with
    | exit i =>
      simp only [Exit.inBlock]
      have hq' : Bh w0 m H (fun env H => @Bool.rec (fun _ => Prop) (K (.exit i) env H) (K .nrm env H) (Nat.beq i id)) env' w' := hq
      cases hb : Nat.beq i id with
      | true =>
        rw [hb] at hq'
        rw [if_pos (Nat.eq_of_beq_eq_true hb)]
        exact liftQ_act (show KQ w0 m H K .normal env' w' from hq') ⟨fun _ => by simp, by simp⟩
      | false =>
        rw [hb] at hq'
        rw [if_neg (Nat.ne_of_beq_eq_false hb)]
        exact liftQ_act (show KQ w0 m H K (.exit i) env' w' from hq') hx
    | panic c => exact absurd rfl (hx.1 c)
    | outgrown => exact absurd rfl hx.2
    | normal => exact liftQ_act (show KQ w0 m H K .normal env' w' from hq) hx
    | goto i => exact hq.elim
    | ret => exact liftQ_act (show KQ w0 m H K .ret env' w' from hq) hx
  | .loop c, env, H, K, renv, w, m, hz, h, hS, hE => by
    have h0 : ((codeC P e Z c).bind fun c => ⟨fun call env H K => loopK 1000000 (c call) K env H⟩ : Bx (CoR e)).go call env H K := h
    rw [bind_go, mk_go] at h0
    generalize hn : (1000000 : Nat) = n₀ at h0
    refine loopW_rule (fun n renv w => Bh w0 m H (loopK n ((codeC P e Z c).go call) K) renv w) n₀ ⟨m, env, H, Le.refl m, hS, hE, Gh.refl m H, h0⟩ fun n renv w hB => ?_
    obtain ⟨m', env', H', hm, hS', hE', hG, hk⟩ := hB
    cases n with
    | zero => exact hk.elim
    | succ n =>
      have hk' : (codeC P e Z c).go call env' H' (kSeq (loopK n ((codeC P e Z c).go call) K) K) := hk
      refine codeW_mono (codeC_sound hD he hC c env' H' _ renv w m' hz hk' hS' hE') fun x renv w hq => ?_
      cases x with
      | normal => exact ⟨n, Nat.lt_succ_self n, Bh.of hm hG hq⟩
      | exit i => exact (show KQ w0 m H K (.exit i) renv w from Bh.of hm hG hq)
      | ret => exact (show KQ w0 m H K .ret renv w from Bh.of hm hG hq)
      | _ => exact hq.elim
  | .exit i, env, H, K, renv, w, m, hz, h, hS, hE => wp_exit (liftQ_act (show KQ w0 m H K (.exit i) renv w from ⟨m, env, H, Le.refl m, hS, hE, Gh.refl m H, h⟩) ⟨fun _ => by simp, by simp⟩)
  | .ret, env, H, K, renv, w, m, hz, h, hS, hE => wp_ret (liftQ_act (show KQ w0 m H K .ret renv w from ⟨m, env, H, Le.refl m, hS, hE, Gh.refl m H, h⟩) ⟨fun _ => by simp, by simp⟩)
  | .rangeFunc .., _, _, _, _, _, _, _, h, _, _ => h.elim
  | .scope _, _, _, _, _, _, _, _, h, _, _ => h.elim
  | .label _, _, _, _, _, _, _, _, h, _, _ => h.elim
  | .goto _, _, _, _, _, _, _, _, h, _, _ => h.elim
  | .refuse _, _, _, _, _, _, _, _, h, _, _ => h.elim
end
end Go.Mx
