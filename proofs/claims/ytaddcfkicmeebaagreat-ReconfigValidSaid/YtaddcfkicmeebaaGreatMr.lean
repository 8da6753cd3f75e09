/- A range over the chunks of a slice, one round at most, in the deterministic semantics. -/
import Derived.Test.YtaddcfkicmeebaaGreatMpC
import Derived.OrdersIn
import Derived.RangeFuncNested
import Derived.RangeFuncBound
import Derived.RangeFuncCalls
import Derived.RangeFuncLeaves
set_option linter.unusedVariables false
namespace Go.Mx
open Go.Eng Go.RowKit

/-! ### What is so under one fence is so under another, and beside deferred calls -/

def plus (a : Act) (ds : List Deferred) : Act := { a with defers := a.defers ++ ds }
def actD (ds : List Deferred) (renv : List Value) : Act := { tmps := renv.toArray, defers := ds }
theorem plus_act (ds : List Deferred) (renv : List Value) : plus (act renv) ds = actD ds renv := rfl
theorem plus_put (a : Act) (ds : List Deferred) (d : Option Tmp) (v : Value) : (plus a ds).put d v = plus (a.put d v) ds := by cases d <;> rfl
theorem plus_eval (a : Act) (ds : List Deferred) : (plus a ds).eval = a.eval := by funext x; cases x <;> rfl

def WideF (F : Fence) : Prop := F = Fence.wide ∨ ∃ r, F = Fence.wide.inRound r
theorem wideF_wide : WideF Fence.wide := .inl rfl
theorem wideF_round (r : Nat) : WideF (Fence.wide.inRound r) := .inr ⟨r, rfl⟩

section
variable {P : Program} {F : Fence} {n : Nat} {ds : List Deferred} {Q Q' : Exit → Act → World → Prop}

theorem WideF.fn (h : WideF F) (f : FuncId) : F.fn f := by rcases h with rfl | ⟨r, rfl⟩ <;> trivial
theorem WideF.depth (h : WideF F) : F.depth = none := by rcases h with rfl | ⟨r, rfl⟩ <;> rfl
theorem WideF.fenced (h : WideF F) : Machine.fenced P F = Machine.fenced P Fence.wide := by rcases h with rfl | ⟨r, rfl⟩ <;> rfl
theorem WideF.calls (h : WideF F) {f : FuncId} {args : Array Value} {w : World} {R : Ending → World → Prop} (k : Calls P f args w R) : CallsIn F n P f args w R := by
  rcases h with rfl | ⟨r, rfl⟩
  · exact callsIn_wide.2 k
  · exact CallsIn.inRound r (callsIn_wide.2 k)
theorem WideF.rows (h : WideF F) {row : String} {args : Array Value} {w : World} {R : Value → World → Prop} (k : Rows P row args w R) : RowsIn F n P row args w R := by
  intro c cs _
  obtain ⟨v, w', r, s⟩ := k c cs
  exact ⟨v, w', r, by rw [h.fenced]; exact stepsIn_wide.2 s⟩

def noDf (o : Oper) : Bool := match o.op with
  | .defer _ => false
  | _ => true

theorem WideF.sem (h : WideF F) {o : Oper} (ho : noDf o = true) (ρ : Operand → Value) : o.semAt F.round ρ = execOp ρ o := by
  rcases h with rfl | ⟨r, rfl⟩
  · exact Oper.semAt_none _ _
  · exact Oper.semAt_some _ _ _ fun c hc => by simp [noDf, hc] at ho

theorem WideF.one (h : WideF F) : F.depth.isSome = true → 1 ≤ n := fun hc => by rw [h.depth] at hc; cases hc

theorem upon_tr (hF : WideF F) {o : Oper} {a : Act} {next next' : Act → World → Prop} (hn : ∀ a w, next a w → next' (plus a ds) w) (hp : ∀ c a w, ¬ Q (.panic c) a w) (hl : ¬ LetsOut Q) :
    ∀ {x : Result Next}, o.upon P a next Q x → o.uponIn F n P (plus a ds) next' Q' x
  | .ok (.value v) w', h => by rw [Oper.uponIn_value, plus_put]; exact hn _ _ h
  | .ok .skip w', h => by rw [Oper.uponIn_skip, plus_put]; exact hn _ _ h
  | .ok (.defer d) w', h => by
    rw [Oper.uponIn_defer]
    have e : ({ plus a ds with defers := d :: (plus a ds).defers } : Act) = plus { a with defers := d :: a.defers } ds := rfl
    rw [e, plus_put]
    exact hn _ _ h
  | .ok (.enter f args) w', h => by
    rw [Oper.uponIn_enter]
    refine ⟨hF.one, hF.calls (Calls.mono h fun e w'' hr => ?_)⟩
    cases e with
    | returned v => show next' ((plus a ds).put o.dst v) w''; rw [plus_put]; exact hn _ _ hr
    | panicked c => exact absurd hr (hp _ _ _)
    | outgrown => exact absurd hr hl
  | .ok (.row row args) w', h => by
    rw [Oper.uponIn_row]
    refine ⟨hF.one, hF.rows (Rows.mono h fun v w'' hr => ?_)⟩
    rw [plus_put]; exact hn _ _ hr
  | .ok (.round ..) w', h => h.elim
  | .halt (.panic v) w', h => absurd h (hp _ _ _)
  | .halt .blocked _, h => h.elim
  | .halt .waiting _, h => h.elim
  | .halt (.exit _) _, h => h.elim
  | .halt (.stuck _) _, h => h.elim
  | .halt (.unsupported _) _, h => h.elim

theorem any_tr (hF : WideF F) {md : Region.Mode} {ops : Array Oper} (hd : ∀ o ∈ ops.toList, noDf o = true) (hq : ∀ a w, Q .normal a w → Q' .normal (plus a ds) w) (hp : ∀ c a w, ¬ Q (.panic c) a w) (hl : ¬ LetsOut Q) :
    ∀ (fuel : Nat) (listed : Array Bool) (a : Act) (w : World), wpAny P md ops Q fuel listed a w → wpAnyIn F n P md ops Q' fuel listed (plus a ds) w
  | 0, listed, a, w, h => ⟨h.1, hq _ _ h.2⟩
  | fuel + 1, listed, a, w, h => by
    refine ⟨fun hr => hq _ _ (h.1 hr), fun i hi => ?_⟩
    have h1 := h.2 i hi
    have ih := any_tr (md := md) hF hd hq hp hl fuel (listed.setIfInBounds i true)
    unfold wpOp at h1
    unfold wpOpIn
    cases ho : ops[i]? with
    | none =>
      simp only [ho] at h1 ⊢
      exact ih _ _ h1
    | some o =>
      simp only [ho] at h1 ⊢
      have hmem : o ∈ ops.toList := by
        obtain ⟨hlt, e⟩ := Array.getElem?_eq_some_iff.1 ho
        exact e ▸ (Array.getElem_mem_toList hlt)
      have ht : (plus a ds).tmps = a.tmps := rfl
      rw [ht]
      split at h1
      · rename_i hw
        rw [if_pos hw]
        refine ⟨fun f _ => hF.fn f, ?_⟩
        rw [hF.sem (hd o hmem), plus_eval]
        rcases h1 with h1 | ⟨_, h1⟩
        · exact upon_tr hF ih hp hl h1
        · exact absurd h1 hl
      · rename_i hw
        rw [if_neg hw]
        refine ⟨fun f _ => hF.fn f, ?_⟩
        rw [plus_put]
        exact ih _ _ h1

theorem uponIn_tr (hF : WideF F) {o : Oper} {a : Act} {next next' : Act → World → Prop} (hn : ∀ a w, next a w → next' (plus a ds) w) (hp : ∀ c a w, ¬ Q (.panic c) a w) (hl : ¬ LetsOut Q) :
    ∀ {x : Result Next}, o.uponIn Fence.wide 0 P a next Q x → o.uponIn F n P (plus a ds) next' Q' x
  | .ok (.value v) w', h => by rw [Oper.uponIn_value, plus_put]; exact hn _ _ h
  | .ok .skip w', h => by rw [Oper.uponIn_skip, plus_put]; exact hn _ _ h
  | .ok (.defer d) w', h => by
    rw [Oper.uponIn_defer]
    have e : ({ plus a ds with defers := d :: (plus a ds).defers } : Act) = plus { a with defers := d :: a.defers } ds := rfl
    rw [e, plus_put]
    exact hn _ _ h
  | .ok (.enter f args) w', h => by
    rw [Oper.uponIn_enter]
    refine ⟨hF.one, hF.calls (Calls.mono (callsIn_wide.1 h.2) fun e w'' hr => ?_)⟩
    cases e with
    | returned v => show next' ((plus a ds).put o.dst v) w''; rw [plus_put]; exact hn _ _ hr
    | panicked c => exact absurd hr (hp _ _ _)
    | outgrown => exact absurd hr hl
  | .ok (.row row args) w', h => by
    rw [Oper.uponIn_row]
    refine ⟨hF.one, fun c cs _ => ?_⟩
    obtain ⟨v, w2, hr, hs⟩ := h.2 c cs (room_wide _)
    refine ⟨v, w2, ?_, by rw [hF.fenced]; exact hs⟩
    show next' ((plus a ds).put o.dst v) w2
    rw [plus_put]; exact hn _ _ hr
  | .ok (.round l f tmps assign body) w', h => by
    rw [Oper.uponIn_round]
    refine ⟨hF.one, hF.fn _, fun c cs _ => ?_⟩
    obtain ⟨e, w2, hr, hs⟩ := h.2.2 c cs (room_wide _)
    refine ⟨e, w2, ?_, by rw [hF.fenced]; exact hs⟩
    cases e with
    | returned v => show next' ((plus a ds).put o.dst v) w2; rw [plus_put]; exact hn _ _ hr
    | panicked c => exact absurd hr (hp _ _ _)
    | outgrown => exact absurd hr hl
  | .halt (.panic v) w', h => absurd h (hp _ _ _)
  | .halt .blocked _, h => h.elim
  | .halt .waiting _, h => h.elim
  | .halt (.exit _) _, h => h.elim
  | .halt (.stuck _) _, h => h.elim
  | .halt (.unsupported _) _, h => h.elim

theorem list_tr (hF : WideF F) {ops : Array Oper} (hq : ∀ a w, Q .normal a w → Q' .normal (plus a ds) w) (hp : ∀ c a w, ¬ Q (.panic c) a w) (hl : ¬ LetsOut Q) :
    ∀ (l : List Oper) (a : Act) (w : World), (∀ o ∈ l, noDf o = true) → wpListIn Fence.wide 0 P ops Q l a w → wpListIn F n P ops Q' l (plus a ds) w
  | [], a, w, _, h => hq _ _ h
  | o :: l, a, w, hd, h => by
    have ih := fun a w => list_tr hF (ops := ops) hq hp hl l a w fun o ho => hd o (List.mem_cons_of_mem _ ho)
    unfold wpListIn at h ⊢
    split at h
    · rename_i hw
      show (if Region.wanted o (yielded ops a.tmps) then _ else _)
      rw [if_pos hw]
      refine ⟨fun f _ => hF.fn f, ?_⟩
      have h2 := h.2
      rw [show Fence.wide.round = none from rfl, Oper.semAt_none] at h2
      rw [hF.sem (hd o List.mem_cons_self), plus_eval]
      exact uponIn_tr hF ih hp hl h2
    · rename_i hw
      show (if Region.wanted o (yielded ops a.tmps) then _ else _)
      rw [if_neg hw]
      refine ⟨fun f _ => hF.fn f, ?_⟩
      rw [plus_put]
      exact ih _ _ h.2
end

/-! ### Code without loops -/

def liftD (ds : List Deferred) (Q : Exit → List Value → World → Prop) : Exit → Act → World → Prop
  | .panic _, _, _ => False
  | .outgrown, _, _ => False
  | e, a, w => a.defers = ds ∧ Q e a.tmps.toList w

theorem liftD_act {ds : List Deferred} {Q : Exit → List Value → World → Prop} {e : Exit} {env : List Value} {w : World} (h : Q e env w) (he : (∀ c, e ≠ .panic c) ∧ e ≠ .outgrown) : liftD ds Q e (actD ds env) w := by
  cases e with
  | panic c => exact absurd rfl (he.1 c)
  | outgrown => exact absurd rfl he.2
  | _ => exact ⟨rfl, by simpa [actD] using h⟩

theorem liftD_env {ds : List Deferred} {Q : Exit → List Value → World → Prop} {e : Exit} {a : Act} {w : World} (h : liftD ds Q e a w) : ((∀ c, e ≠ .panic c) ∧ e ≠ .outgrown) ∧ ∃ env, a = actD ds env ∧ Q e env w := by
  have mk : ∀ (a : Act), a.defers = ds → a = actD ds a.tmps.toList := fun a ha => by
    cases a with
    | mk t d => simp only at ha; subst ha; simp [actD]
  cases e with
  | panic c => exact h.elim
  | outgrown => exact h.elim
  | normal => exact ⟨⟨fun _ => by simp, by simp⟩, _, mk a h.1, h.2⟩
  | exit i => exact ⟨⟨fun _ => by simp, by simp⟩, _, mk a h.1, h.2⟩
  | goto i => exact ⟨⟨fun _ => by simp, by simp⟩, _, mk a h.1, h.2⟩
  | ret => exact ⟨⟨fun _ => by simp, by simp⟩, _, mk a h.1, h.2⟩

def straight : Code → Bool
  | .region _ ops _ => ops.toList.all noDf
  | .seq a b => straight a && straight b
  | .cond _ a b => straight a && straight b
  | .block _ c => straight c
  | .loop _ => false
  | _ => true

theorem evalD (ds : List Deferred) (renv : List Value) : (actD ds renv).eval = ev renv := by rw [← plus_act, plus_eval, eval_act]

section
variable {P : Program} {e : Nat} {w0 : Bs} {call : Cal} {F : Fence} {n : Nat} {ds : List Deferred}

/-- Behind a region. -/
def BhQ (w0 : Bs) (m : Mp) (H : Hp) (K : Env e → Hp → Prop) : Exit → Act → World → Prop
  | .normal, a, w => a.defers = [] ∧ Bh w0 m H K a.tmps.toList w
  | _, _, _ => False

theorem codeD_sound (hm : P.follows .mixedOrders = true) (hF : WideF F) (he : e ≤ 16384) (hC : CallOk P w0 call) {Z : Plans} : ∀ (c : Code) (env : Env e) (H : Hp) (K : KE e) (renv : List Value) (w : World) (m : Mp),
    okCode Z c = true → straight c = true → (codeC P e Z c).go call env H K → St w0 m w H → ER m e env renv → c.wpIn F n P (liftD ds (KQ w0 m H K)) (actD ds renv) w
  | .skip, env, H, K, renv, w, m, hz, hd, h, hS, hE => wpIn_skip (liftD_act (show KQ w0 m H K .normal renv w from ⟨m, env, H, Le.refl m, hS, hE, Gh.refl m H, h⟩) ⟨fun _ => by simp, by simp⟩)
  | .region id ops draw, env, H, K, renv, w, m, hz, hd, h, hS, hE => by
    have hQ : ∀ renv' w', Bh w0 m H (K .nrm) renv' w' → BhQ w0 m H (K .nrm) .normal (act renv') w' := fun renv' w' hB => ⟨rfl, by simpa [act] using hB⟩
    have hq : ∀ a w, BhQ w0 m H (K .nrm) .normal a w → liftD ds (KQ w0 m H K) .normal (plus a ds) w := fun a w hB => ⟨by show a.defers ++ ds = ds; rw [hB.1]; rfl, hB.2⟩
    have hp : ∀ c a w, ¬ BhQ w0 m H (K .nrm) (.panic c) a w := fun c a w h => h
    have hl : ¬ LetsOut (BhQ w0 m H (K .nrm)) := fun ⟨_, _, h⟩ => h
    have hd' : ops.toList.all noDf = true := hd
    have hd2 : ∀ o ∈ ops.toList, noDf o = true := List.all_eq_true.1 hd'
    cases draw with
    | true =>
      have h0 : ((drawC P e Z id ops.toList).bind fun r => ⟨fun call env H K => r call env H (K .nrm)⟩ : Bx (CoR e)).go call env H K := h
      rw [bind_go, mk_go] at h0
      exact wpIn_region_any hm (any_tr hF hd2 hq hp hl _ _ _ _ (draw_any he hz hC h0 hS hE hQ))
    | false =>
      have h0 : ((opsC P e ops.toList ops.toList).bind fun r => ⟨fun call env H K => r call env H (K .nrm)⟩ : Bx (CoR e)).go call env H K := h
      rw [bind_go, mk_go] at h0
      exact wpIn_region_list (list_tr hF hq hp hl _ _ _ hd2 (by simpa using opsC_sound he hC (all := ops.toList) ops.toList h0 hS hE hQ))
  | .seq a b, env, H, K, renv, w, m, hz, hd, h, hS, hE => by
    have h0 : ((codeC P e Z a).bind fun a => (codeC P e Z b).bind fun b => ⟨fun call env H K => a call env H (kSeq (fun env H => b call env H K) K)⟩ : Bx (CoR e)).go call env H K := h
    rw [bind_go, bind_go, mk_go] at h0
    have hz : (okCode Z a && okCode Z b) = true := hz
    have hd : (straight a && straight b) = true := hd
    simp only [Bool.and_eq_true] at hz hd
    have h1 := codeD_sound hm hF he hC a env H _ renv w m hz.1 hd.1 h0 hS hE
    refine wpIn_seq (wpIn_mono h1 fun x a' w' hq0 => ?_)
    obtain ⟨hx, env', ha, hq⟩ := liftD_env hq0
    subst ha
    clear hq0
    cases x with
    | normal =>
      obtain ⟨m', env2, H', hm', hS', hE', hG, hk⟩ := hq
      refine wpIn_mono (codeD_sound hm hF he hC b env2 H' K env' w' m' hz.2 hd.2 hk hS' hE') fun x a w h => ?_
      obtain ⟨hx, env3, ha, hq⟩ := liftD_env h
      subst ha
      exact liftD_act (KQ.of hm' hG _ _ _ hq) hx
    | panic c => exact absurd rfl (hx.1 c)
    | outgrown => exact absurd rfl hx.2
    | exit i => exact liftD_act (show KQ w0 m H K (.exit i) env' w' from hq) hx
    | goto i => exact hq.elim
    | ret => exact liftD_act (show KQ w0 m H K .ret env' w' from hq) hx
  | .cond o a b, env, H, K, renv, w, m, hz, hd, h, hS, hE => by
    have h0 : ((evC e o).bind fun g => (codeC P e Z a).bind fun a => (codeC P e Z b).bind fun b => ⟨fun call env H K => g env fun x => onB x (a call env H K) (b call env H K)⟩ : Bx (CoR e)).go call env H K := h
    rw [bind_go, bind_go, bind_go, mk_go] at h0
    have hz : (okCode Z a && okCode Z b) = true := hz
    have hd : (straight a && straight b) = true := hd
    simp only [Bool.and_eq_true] at hz hd
    obtain ⟨v, h1, hv⟩ := evC_sound h0
    obtain ⟨t, rfl, h2⟩ := onB_iff h1
    have hev : ev renv o = .bool t := hv m renv fun t _ => hE.slot t
    refine wpIn_cond (t := t) (by rw [evalD]; exact hev) ?_
    rcases h2 with ⟨rfl, h3⟩ | ⟨rfl, h3⟩
    · exact codeD_sound hm hF he hC a env H K renv w m hz.1 hd.1 h3 hS hE
    · exact codeD_sound hm hF he hC b env H K renv w m hz.2 hd.2 h3 hS hE
  | .block id c, env, H, K, renv, w, m, hz, hd, h, hS, hE => by
    have h0 : ((codeC P e Z c).bind fun c => ⟨fun call env H K => c call env H (kBlock id K)⟩ : Bx (CoR e)).go call env H K := h
    rw [bind_go, mk_go] at h0
    have h1 := codeD_sound hm hF he hC c env H _ renv w m hz hd h0 hS hE
    refine wpIn_block (wpIn_mono h1 fun x a' w' hq0 => ?_)
    obtain ⟨hx, env', ha, hq⟩ := liftD_env hq0
    subst ha
    clear hq0
    cases x with
    | exit i =>
      simp only [Exit.inBlock]
      have hq' : Bh w0 m H (fun env H => @Bool.rec (fun _ => Prop) (K (.exit i) env H) (K .nrm env H) (Nat.beq i id)) env' w' := hq
      cases hb : Nat.beq i id with
      | true =>
        rw [hb] at hq'
        rw [if_pos (Nat.eq_of_beq_eq_true hb)]
        exact liftD_act (show KQ w0 m H K .normal env' w' from hq') ⟨fun _ => by simp, by simp⟩
      | false =>
        rw [hb] at hq'
        rw [if_neg (Nat.ne_of_beq_eq_false hb)]
        exact liftD_act (show KQ w0 m H K (.exit i) env' w' from hq') hx
    | panic c => exact absurd rfl (hx.1 c)
    | outgrown => exact absurd rfl hx.2
    | normal => exact liftD_act (show KQ w0 m H K .normal env' w' from hq) hx
    | goto i => exact hq.elim
    | ret => exact liftD_act (show KQ w0 m H K .ret env' w' from hq) hx
  | .loop c, env, H, K, renv, w, m, hz, hd, h, hS, hE => by cases hd
  | .exit i, env, H, K, renv, w, m, hz, hd, h, hS, hE => wpIn_exit (liftD_act (show KQ w0 m H K (.exit i) renv w from ⟨m, env, H, Le.refl m, hS, hE, Gh.refl m H, h⟩) ⟨fun _ => by simp, by simp⟩)
  | .ret, env, H, K, renv, w, m, hz, hd, h, hS, hE => wpIn_ret (liftD_act (show KQ w0 m H K .ret renv w from ⟨m, env, H, Le.refl m, hS, hE, Gh.refl m H, h⟩) ⟨fun _ => by simp, by simp⟩)
  | .rangeFunc .., _, _, _, _, _, _, _, _, h, _, _ => h.elim
  | .scope _, _, _, _, _, _, _, _, _, h, _, _ => h.elim
  | .label _, _, _, _, _, _, _, _, _, h, _, _ => h.elim
  | .goto _, _, _, _, _, _, _, _, _, h, _, _ => h.elim
  | .refuse _, _, _, _, _, _, _, _, _, h, _, _ => h.elim
end
end Go.Mx
