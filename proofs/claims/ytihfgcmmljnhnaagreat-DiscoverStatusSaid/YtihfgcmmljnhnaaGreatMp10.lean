/- Every operation. -/
import Derived.Test.YtihfgcmmljnhnaaGreatMp9
set_option linter.unusedVariables false
namespace Go.Mx
open Go.Eng

/-- Calls do what the semantics says. -/
def CallOk (P : Program) (w0 : World) (call : Cal) : Prop :=
  ∀ (f : FuncId) (args : List V) (vals : List Value) (m : Mp) (w : World) (H : Hp) (K : KV), call f args H K → St w0 m w H → All2 (VR m) args vals → Calls P f vals.toArray w fun e w' => ∃ v, e = .returned v ∧ Af w0 m H K v w'

theorem All2.append {α β : Type} {R : α → β → Prop} : ∀ {xs : List α} {ys : List β} {xs' : List α} {ys' : List β}, All2 R xs ys → All2 R xs' ys' → All2 R (xs ++ xs') (ys ++ ys')
  | [], [], _, _, _, h => h
  | _ :: _, _ :: _, _, _, ⟨a, b⟩, h => ⟨a, All2.append b h⟩

theorem capV_rel {m : Mp} : ∀ {cs : List Ptr} {vs : List Value}, All2 (PR m) cs vs → All2 (VR m) (capV cs) vs
  | [], [], _ => trivial
  | c :: cs, v :: vs, ⟨a, b⟩ => by
    refine ⟨?_, capV_rel b⟩
    cases c with
    | none => exact a
    | some p => exact a

section
variable {P : Program} {e : Nat} {env : Env e} {o : Oper} {w0 : World} {m : Mp} {w : World} {H : Hp} {K : KV} {renv : List Value} {call : Cal}

theorem freshC_sound {K : Ob → (Nat → V) → Prop} (h : (freshC P e o.op).go env K) : ∃ b f, K b f ∧ FrSem P e env o b f := by
  unfold freshC at h
  split at h
  · rename_i ho
    split at h
    · rename_i hok; exact alloc_sound ho hok h
    · exact h.elim
  · rename_i ho; exact box_sound ho h
  · rename_i ho; exact buildSlice_sound ho h
  · rename_i ho; exact makeSlice_sound ho h
  · exact h.elim

theorem fresh_does {b : Ob} {f : Nat → V} (hF : FrSem P e env o b f) (hk : newK H b fun o H => K (f o) H) (hS : St w0 m w H) (hr : OpsR m e env renv o.op.operands.toList) : OpDoes P renv o (Af w0 m H K) w := by
  obtain ⟨arr, T, rv, hrun, ⟨n, dp, d, rfl, hn, hdp, htr⟩, hv⟩ := hF m renv hr
  obtain ⟨hle, h1⟩ := newK_iff hk
  have hw : Keep (fun k => k = w.heap.size) w (w.alloc (.cells arr.toArray T)) := Keep.of_new (new_alloc w _)
  have hadd := hS.hr.add hle hw hS.hr.size (blk_alloc w arr T) rfl (by omega) hdp (by rw [hn, List.take_length]; exact htr) (fun o wr n dp d N hg hm => by have := (hS.hr.blk _ _ _ hm).2; omega)
  have hm' : mset m H.next (w.heap.size, arr.length) H.next = some (w.heap.size, arr.length) := by unfold mset; rw [if_pos rfl]
  exact .inl ⟨_, _, hrun w, _, f H.next, _, mset_le (hS.hr.unm _ (Nat.le_refl _)), hv _ _ _ (mset_le (hS.hr.unm _ (Nat.le_refl _))) hm', ⟨hadd, hS.new.trans hw fun i hi e => by have := hS.new.size; omega⟩, add_gh hle, h1⟩

theorem pure_does' {v : V} (hP : PuSem P e env o v) (hk : K v H) (hS : St w0 m w H) (hr : OpsR m e env renv o.op.operands.toList) : OpDoes P renv o (Af w0 m H K) w := by
  obtain ⟨rv, hrun, hv⟩ := hP m renv hr
  exact .inl ⟨_, _, hrun w, m, v, H, Le.refl m, hv, hS, Gh.refl m H, hk⟩

theorem load_does {t : TypeId} {x : Operand} (ho : o.op = .load t x) (h : (loadC P e t x).go env H fun v => K v H) (hS : St w0 m w H) (hr : OpsR m e env renv o.op.operands.toList) : OpDoes P renv o (Af w0 m H K) w := by
  obtain ⟨v, hk, hl⟩ := loadC_sound h
  obtain ⟨rv, hrun, hv⟩ := hl m w0.heap.size w renv hS.hr (by rintro y rfl; exact hr (.tmp y) (by rw [ho]; simp [Op.operands]) y rfl)
  have he : execOp (ev renv) o = (do pure (.value (← Instr.loadAt t (ev renv x)))) := by unfold execOp; rw [ho]
  exact val_does he hrun ⟨m, v, H, Le.refl m, hv, hS, Gh.refl m H, hk⟩

theorem o_slice_sound {t : TypeId} {x : Operand} {lo hi mx : Option Operand} (ho : o.op = .slice t x lo hi mx) (h : (o_slice P e t x lo hi mx).go call env H K) (hS : St w0 m w H) (hr : OpsR m e env renv o.op.operands.toList) : OpDoes P renv o (Af w0 m H K) w := by
  unfold o_slice at h
  split at h
  · rename_i el hel
    obtain ⟨hu, hok, hc⟩ := elHM_info hel
    rw [bind_go, bind_go, bind_go, bind_go, fNB_eq, mk_go] at h
    obtain ⟨vx, h1, hx⟩ := evC_sound h
    obtain ⟨vlo, h2, hlo⟩ := optC_sound h1
    obtain ⟨vhi, h3, hhi⟩ := optC_sound h2
    obtain ⟨vmx, h4, hmx⟩ := optC_sound h3
    obtain ⟨v, hv, HH⟩ := slS_sound ho hu hok hx hlo hhi hmx h4 hc
    obtain ⟨rv, hrun, hrel⟩ := HH m renv hr fun _ ob wr n dp d b N hg hm => (by
      obtain ⟨cs, T, _, _, hnN, _⟩ := hS.hr.ob _ _ _ _ _ _ _ hg hm
      exact hnN)
    exact .inl ⟨_, _, hrun w, m, v, H, Le.refl m, hrel, hS, Gh.refl m H, hv⟩
  · exact h.elim

theorem enter_run {f : Operand} {c : Call} {g : FuncId} {first captured : Array Value} (ho : o.op = .call c) (hc : c.callee = .value f) (hf : ev renv f = .func (.func g) first captured) (hok : okFun P g = true) :
    (execOp (ev renv) o).run P w = .ok (.enter g (first ++ c.args.map (ev renv) ++ captured)) w := by
  unfold okFun at hok
  cases hfn : P.funcs[g]? with
  | none => simp [hfn] at hok
  | some fn =>
    simp only [hfn, Bool.and_eq_true, Bool.not_eq_true'] at hok
    have hb : fn.body ≠ none := by
      intro hb
      simp [hb] at hok
    have hn : fn.name ≠ "runtime.NumGoroutine" := by simpa using hok.2
    unfold execOp
    rw [ho]
    simp only [resolve, hc, hf, Deferred.ofValue, pure_bind, invoke, callFunc]
    simp [program, Sem.run, hfn, hn, hb]

theorem bi_does {c : Call} {b : Builtin} {s : Sem Value} {R : Value → World → Prop} {rv : Value} {w' : World} (ho : o.op = .call c) (hc : c.callee = .builtin b)
    (hb : ∀ cs, builtin b c.argTypes o.type cs (c.args.map (ev renv)) = (do pure (.value (← s)))) (hr : s.run P w = .ok rv w') (h : R rv w') : OpDoes P renv o R w := by
  refine .inl ⟨.value rv, w', ?_, h⟩
  unfold execOp
  rw [ho]
  simp only [resolve, hc, pure_bind, invoke, hb]
  rw [Sem.run_bind, hr]
  rfl

theorem bi_sound {c : Call} {b : Builtin} {vs : List V} (ho : o.op = .call c) (hc : c.callee = .builtin b) (h : (biC P b c.argTypes.toList).go vs H K) (hS : St w0 m w H) (hvs : All2 (VR m) vs (c.args.toList.map (ev renv))) : OpDoes P renv o (Af w0 m H K) w := by
  unfold biC at h
  split at h
  rotate_left
  · exact h.elim
  rename_i t ts hts
  split at h
  rotate_left
  · exact h.elim
  rename_i el hel
  obtain ⟨hu, hok⟩ := elT_info hel
  rw [fNB_eq] at h
  have hty : c.argTypes[0]? = some t := by rw [← Array.getElem?_toList, hts]; rfl
  have args2 : ∀ {x y : V}, vs = [x, y] → ∃ rx ry, c.args.map (ev renv) = #[rx, ry] ∧ VR m x rx ∧ VR m y ry := by
    rintro x y rfl
    generalize hl : c.args.toList.map (ev renv) = l at hvs
    match l, hvs with
    | [rx, ry], hh => exact ⟨rx, ry, Array.ext' (by simpa using hl), hh.1, hh.2.1⟩
  have args1 : ∀ {x : V}, vs = [x] → ∃ rx, c.args.map (ev renv) = #[rx] ∧ VR m x rx := by
    rintro x rfl
    generalize hl : c.args.toList.map (ev renv) = l at hvs
    match l, hvs with
    | [rx], hh => exact ⟨rx, Array.ext' (by simpa using hl), hh.1⟩
  split at h
  · split at h
    rotate_left
    · exact h.elim
    rename_i u t' u' htu
    split at h
    rotate_left
    · exact h.elim
    rename_i el' hu'
    rw [fNB_eq, mk_go] at h
    obtain ⟨x, y, e1, h1⟩ := two_iff h
    obtain ⟨rx, ry, e2, hx, hy⟩ := args2 e1
    have e3 : c.argTypes = #[t, u'] := by
      apply Array.ext'
      rw [htu]
      have := hts.symm.trans htu
      simp only [List.cons.injEq] at this
      rw [this.1]
    obtain ⟨rv, w', hrun, haf⟩ := app_sound (ty := o.type) hu hu' hok hS hx hy h1
    exact bi_does ho hc (s := Builtin.append_ c.argTypes o.type (c.args.map (ev renv))) (fun _ => rfl) (by rw [e2, e3]; exact hrun) haf
  · rw [mk_go] at h
    obtain ⟨x, y, e1, h1⟩ := two_iff h
    obtain ⟨rx, ry, e2, hx, hy⟩ := args2 e1
    obtain ⟨rv, w', hrun, haf⟩ := copy_sound (ty := o.type) hty hu hok hS hx hy h1
    exact bi_does ho hc (s := Builtin.copy_ c.argTypes o.type (c.args.map (ev renv))) (fun _ => rfl) (by rw [e2]; exact hrun) haf
  · rw [mk_go] at h
    obtain ⟨x, e1, h1⟩ := one_iff h
    obtain ⟨rx, e2, hx⟩ := args1 e1
    obtain ⟨rv, w', hrun, haf⟩ := clear_sound (ty := o.type) hty hu hok hS hx h1
    exact bi_does ho hc (s := Builtin.clear_ c.argTypes o.type (c.args.map (ev renv))) (fun _ => rfl) (by rw [e2]; exact hrun) haf
  · exact h.elim

theorem o_call_sound {c : Call} (ho : o.op = .call c) (hC : CallOk P w0 call) (h : (o_call P e c).go call env H K) (hS : St w0 m w H) (hr : OpsR m e env renv o.op.operands.toList) : OpDoes P renv o (Af w0 m H K) w := by
  unfold o_call at h
  split at h
  · rename_i b hc
    rw [bind_go, bind_go, mk_go] at h
    obtain ⟨vs, h1, hvs⟩ := evsC_sound h
    exact bi_sound ho hc h1 hS (EvSem.all hr hvs (by rw [ho]; intro x hx; simp only [Op.operands, Call.operands, hc]; simpa using hx))
  · rename_i f hc
    have hin : ∀ x ∈ c.args.toList, x ∈ o.op.operands.toList := by
      rw [ho]
      intro x hx
      simp only [Op.operands, Call.operands, hc]
      simp at hx
      simp [hx]
    split at h
    · rename_i f
      split at h
      · rename_i hok
        rw [bind_go, mk_go] at h
        obtain ⟨vs, h1, hvs⟩ := evsC_sound h
        have hall := EvSem.all hr hvs hin
        refine .inr ⟨f, _, enter_run (first := #[]) (captured := #[]) ho hc rfl hok, ?_⟩
        have := hC f vs _ m w H K h1 hS hall
        have e1 : (#[] ++ c.args.map (ev renv) ++ #[] : Array Value) = (c.args.toList.map (ev renv)).toArray := by
          apply Array.ext'
          simp
        rw [e1]
        exact this
      · exact h.elim
    · rw [bind_go, bind_go, mk_go] at h
      obtain ⟨vf, h1, hf⟩ := evC_sound h
      obtain ⟨vs, h2, hvs⟩ := evsC_sound h1
      have hall := EvSem.all hr hvs hin
      unfold callV at h2
      split at h2
      · split at h2
        · rename_i first cap fn g
          obtain ⟨hok, h3⟩ := iff_t h2
          obtain ⟨fs, cs, q1, hfs, hcs⟩ := hf.of hr (by rw [ho]; simp [Op.operands, Call.operands, hc])
          refine .inr ⟨g, _, enter_run ho hc q1 hok, ?_⟩
          have := hC g _ (fs ++ c.args.toList.map (ev renv) ++ cs) m w H K h3 hS (((capV_rel hfs).append hall).append (capV_rel hcs))
          have e1 : (fs.toArray ++ c.args.map (ev renv) ++ cs.toArray : Array Value) = (fs ++ c.args.toList.map (ev renv) ++ cs).toArray := by simp
          rw [e1]
          exact this
        · exact h2.elim
      · exact h2.elim
  · exact h.elim

theorem otherC_sound (hC : CallOk P w0 call) (h : (otherC P e o.op).go call env H K) (hS : St w0 m w H) (hr : OpsR m e env renv o.op.operands.toList) : OpDoes P renv o (Af w0 m H K) w := by
  unfold otherC at h
  split at h
  · rename_i ho; exact store_sound ho h hS hr
  · rename_i ho; exact o_call_sound ho hC h hS hr
  · exact h.elim

/-- **Every operation, in the order that is written.** -/
theorem opC_sound (hC : CallOk P w0 call) (h : (opC P e o.op).go call env H K) (hS : St w0 m w H) (hr : OpsR m e env renv o.op.operands.toList) : OpDoes P renv o (Af w0 m H K) w := by
  have pu : ((pureC P e o.op).bind fun g => ⟨fun _ env H K => g env fun v => K v H⟩ : Bx (OpR e)).go call env H K → OpDoes P renv o (Af w0 m H K) w := fun h => by
    rw [bind_go, mk_go] at h
    obtain ⟨v, hk, hP⟩ := pureC_sound h
    exact pure_does' hP hk hS hr
  unfold opC at h
  split at h
  · split at h
    · rename_i ho
      split at h
      · exact o_slice_sound ho h hS hr
      · exact pu h
    · exact pu h
  · split at h
    · rename_i ho
      rw [bind_go, mk_go] at h
      exact load_does ho h hS hr
    · exact h.elim
  · rw [bind_go, mk_go] at h
    obtain ⟨b, f, hk, hF⟩ := freshC_sound h
    exact fresh_does hF hk hS hr
  · exact otherC_sound hC h hS hr
end
end Go.Mx
