/- Operations that look at no memory: parts of structs, tuples, built values; all of them. -/
import Derived.Test.YtihfgcmmljnhnaaGreatMp3
set_option linter.unusedVariables false
namespace Go.Mx
open Go.Eng

theorem offT_info {P : Program} {t : TypeId} {f : Nat} {r : Nat × TypeId} (h : offT P t f = some r) : ∃ (fs : Array Field) (fl : Field), P.underlying t = some (.struct fs) ∧ fs[f]? = some fl ∧ r.1 = fl.offset ∧ r.2 = fl.type ∧ okT P fl.type = true ∧ hasU P fl.type = true := by
  unfold offT at h
  split at h
  · rename_i fs hu
    split at h
    · rename_i fl hf
      split at h
      · rename_i hk
        simp only [Option.some.injEq] at h
        subst h
        simp only [Bool.and_eq_true] at hk
        exact ⟨fs, fl, hu, hf, rfl, rfl, hk.1, hk.2⟩
      · cases h
    · cases h
  · cases h

section
variable {P : Program} {e : Nat} {env : Env e} {o : Oper} {K : V → Prop}

theorem fieldAddr_sound {t : TypeId} {x : Operand} {f : Nat} (ho : o.op = .fieldAddr t x f) (h : (u_fieldAddr P e t x f).go env K) : ∃ v, K v ∧ PuSem P e env o v := by
  unfold u_fieldAddr at h
  split at h
  · rename_i r hr
    obtain ⟨fs, fl, hu, hf, e1, e2, hok, _⟩ := offT_info hr
    obtain ⟨inf, z, hinf, hz, hsz, hzs, hpos, hmax, _⟩ := okT_info hok
    rw [bind_go, fNB_eq, mk_go] at h
    obtain ⟨vx, h1, hx⟩ := evC_sound h
    obtain ⟨ob, off, rfl, h2⟩ := pO_iff h1
    have h3 := fN_iff.1 h2
    refine ⟨_, h3, fun m renv hr => ?_⟩
    obtain ⟨b, N, hb, q1⟩ := hx.of hr (by rw [ho]; simp [Op.operands])
    have he : execOp (ev renv) o = (do pure (.value (← Instr.fieldAt t (ev renv x) f))) := by unfold execOp; rw [ho]
    refine pu_of (rv := .pointer (some ⟨b, off + fl.offset, none⟩)) he (fun w => ?_) ⟨b, N, hb, by rw [e1]; rfl⟩
    have hne : ¬ inf.size = 0 := by omega
    simp [Instr.fieldAt, run_underlying hu, hf, q1, Instr.sureAddr, fieldPlace, Eng.run_sizeOf hinf, hne, add_off]
  · exact h.elim

/-- A part of a struct or an array that lies in temporaries. -/
theorem partC_sound {t : TypeId} {off : Nat} {vx : V} (hok : okT P t = true) (hu : hasU P t = true) (h : (partC P off t).go vx K) : ∃ v, K v ∧ ∀ m rx, VR m vx rx → ∃ cs, rx = .agg cs ∧ ∃ rv, (∀ w, (part t cs off).run P w = .ok rv w) ∧ VR m v rv := by
  obtain ⟨d, hd⟩ := hasU_info hu
  obtain ⟨inf, z, hinf, hz, hsz, hzs, hpos, hmax, _⟩ := okT_info hok
  unfold partC at h
  split at h
  · rename_i hagg
    rw [fNB_eq, mk_go] at h
    obtain ⟨dp, dd, oo, n, rfl, h1⟩ := onA_iff h
    obtain ⟨hb, h2⟩ := iff_t h1
    have hb := ble_le hb
    have hb : off + szT P t ≤ n := hb
    have h3 := fN_iff.1 h2
    refine ⟨_, h3, fun m rx hr => ?_⟩
    obtain ⟨cs, rfl, hl, ht⟩ := hr
    refine ⟨_, rfl, .agg (cs.toArray.extract off (off + inf.size)), fun w => ?_, (cs.drop off).take inf.size, ?_, ?_, ?_⟩
    · have hagg : isAgg? P t = true := hagg
      simp [part, run_isAgg hd, hagg, Eng.run_sizeOf hinf]
    · simp [List.extract_toArray]
    · simp; omega
    · refine ⟨?_, fun i u hi => ?_⟩
      · have := ht.1
        show oo + off + _ ≤ _
        simp; omega
      · rw [List.getElem?_take] at hi
        split at hi
        · rw [List.getElem?_drop] at hi
          have := ht.2 _ _ hi
          rw [show (oo.add off) + i = oo + (off + i) from Nat.add_assoc ..]
          exact this
        · cases hi
  · rename_i hagg
    rw [mk_go] at h
    obtain ⟨dp, dd, oo, n, rfl, h1⟩ := onA_iff h
    obtain ⟨hb, h2⟩ := iff_t h1
    have hb : off + 1 ≤ n := ble_le hb
    have h3 := fN_iff.1 h2
    rw [getC_eq] at h3
    refine ⟨_, h3, fun m rx hr => ?_⟩
    obtain ⟨cs, rfl, hl, ht⟩ := hr
    have hlt : off < cs.length := by omega
    have hg : cs[off]? = some cs[off] := List.getElem?_eq_getElem hlt
    refine ⟨_, rfl, cs[off], fun w => ?_, (ht.2 _ _ hg).1⟩
    have hagg : isAgg? P t = false := hagg
    simp [part, run_isAgg hd, hagg, hg]

theorem field_sound {t : TypeId} {x : Operand} {f : Nat} (ho : o.op = .field t x f) (h : (u_field P e t x f).go env K) : ∃ v, K v ∧ PuSem P e env o v := by
  unfold u_field at h
  split at h
  · rename_i r hr
    obtain ⟨fs, fl, hu, hf, e1, e2, hok, hhu⟩ := offT_info hr
    rw [bind_go, bind_go, mk_go] at h
    obtain ⟨vx, h1, hx⟩ := evC_sound h
    rw [e1, e2] at h1
    obtain ⟨v, hv, H⟩ := partC_sound hok hhu h1
    refine ⟨v, hv, fun m renv hr => ?_⟩
    obtain ⟨cs, q1, rv, hrun, hrel⟩ := H m _ (hx.of hr (by rw [ho]; simp [Op.operands]))
    have he : execOp (ev renv) o = (do pure (.value (← Instr.field t (ev renv x) f))) := by unfold execOp; rw [ho]
    refine pu_of he (fun w => ?_) hrel
    simp [Instr.field, run_underlying hu, hf, q1, asAgg, hrun]
  · exact h.elim

theorem index_sound {t : TypeId} {x i : Operand} (ho : o.op = .index t x i) (h : (u_index P e t x i).go env K) : ∃ v, K v ∧ PuSem P e env o v := by
  unfold u_index at h
  split at h
  · rename_i len el hu
    split at h
    · rename_i hk
      simp only [Bool.and_eq_true] at hk
      obtain ⟨inf, z, hinf, hz, hsz, hzs, hpos, hmax, _⟩ := okT_info hk.1
      rw [bind_go, bind_go, fNB_eq, mk_go] at h
      obtain ⟨vx, h1, hx⟩ := evC_sound h
      obtain ⟨vi, h2, hi⟩ := evC_sound h1
      obtain ⟨k, n, rfl, h3⟩ := onN_iff h2
      obtain ⟨hn, h4⟩ := iff_t h3
      have hn := ble_le hn
      obtain ⟨v, hv, H⟩ := partC_sound hk.1 hk.2 h4
      refine ⟨v, hv, fun m renv hr => ?_⟩
      obtain ⟨cs, q1, rv, hrun, hrel⟩ := H m _ (hx.of hr (by rw [ho]; simp [Op.operands]))
      have q2 : ev renv i = .int (kd k) (n : Int) := hi.of hr (by rw [ho]; simp [Op.operands])
      have he : execOp (ev renv) o = (do pure (.value (← Instr.index t (ev renv x) (ev renv i)))) := by unfold execOp; rw [ho]
      refine pu_of he (fun w => ?_) hrel
      have hrun : ∀ w, (part el cs (n * inf.size)).run P w = .ok rv w := by rw [← hsz]; exact hrun
      have hb2 : n < len := hn
      simp [Instr.index, run_underlying hu, q1, q2, asIntOf, hb2, Eng.run_sizeOf hinf, hrun]
    · exact h.elim
  · exact h.elim

theorem nthC_sound : ∀ {i : Nat} {l : List V} {K : V → Prop}, (nthC i).go l K → ∃ v, l[i]? = some v ∧ K v
  | 0, l, K, h => by
    cases l with
    | nil => exact h.elim
    | cons v t => exact ⟨v, rfl, h⟩
  | i + 1, l, K, h => by
    have h1 : ((nthC i).bind fun h => ⟨fun l K => @List.rec V (fun _ => Prop) False (fun _ t _ => h t K) l⟩ : Bx (List V → (V → Prop) → Prop)).go l K := h
    rw [bind_go, mk_go] at h1
    cases l with
    | nil => exact h1.elim
    | cons v t =>
      obtain ⟨u, hu, hk⟩ := nthC_sound (show (nthC i).go t K from h1)
      exact ⟨u, by simpa using hu, hk⟩

theorem All2.get {α β : Type} {R : α → β → Prop} : ∀ {xs : List α} {ys : List β} {i : Nat} {x : α}, All2 R xs ys → xs[i]? = some x → ∃ y, ys[i]? = some y ∧ R x y
  | [], [], _, _, _, h => by simp at h
  | a :: _, b :: _, 0, _, h, hx => by simp at hx; subst hx; exact ⟨b, rfl, h.1⟩
  | _ :: _, _ :: _, i + 1, _, h, hx => by
    obtain ⟨y, hy, hr⟩ := All2.get h.2 (by simpa using hx)
    exact ⟨y, by simpa using hy, hr⟩

theorem extract_sound {x : Operand} {i : Nat} (ho : o.op = .extract x i) (h : ((evC e x).bind fun g => (nthC i).bind fun h => ⟨fun env K => g env fun x => onT x fun vs => h vs K⟩ : Bx (PuR e)).go env K) : ∃ v, K v ∧ PuSem P e env o v := by
  rw [bind_go, bind_go, mk_go] at h
  obtain ⟨vx, h1, hx⟩ := evC_sound h
  obtain ⟨vs, rfl, h2⟩ := onT_iff h1
  obtain ⟨v, hv, hk⟩ := nthC_sound h2
  refine ⟨v, hk, fun m renv hr => ?_⟩
  obtain ⟨rs, q1, hall⟩ := hx.of hr (by rw [ho]; simp [Op.operands])
  obtain ⟨r, hr1, hr2⟩ := hall.get hv
  have he : execOp (ev renv) o = (do pure (.value (← Instr.extract (ev renv x) i))) := by unfold execOp; rw [ho]
  refine pu_of (rv := r) he (fun w => ?_) hr2.vr
  rw [q1]
  simp [Instr.extract, hr1]

/-! ### Functions as values -/

theorem ptrsV_sound : ∀ {vs : List V} {X : List Ptr → Prop}, ptrsV vs X → ∃ l, X l ∧ ∀ m rs, All2 (VR m) vs rs → All2 (PR m) l rs
  | [], X, h => ⟨[], h, fun m rs hr => by cases rs with
    | nil => trivial
    | cons _ _ => exact hr.elim⟩
  | v :: vs, X, h => by
    unfold ptrsV at h
    split at h
    · rename_i heq; cases heq
    · rename_i vs' heq
      simp only [List.cons.injEq] at heq
      obtain ⟨rfl, rfl⟩ := heq
      obtain ⟨l, hl, H⟩ := ptrsV_sound h
      refine ⟨_, hl, fun m rs hr => ?_⟩
      cases rs with
      | nil => exact hr.elim
      | cons r rs => exact ⟨hr.1, H m rs hr.2⟩
    · rename_i ob off vs' heq
      simp only [List.cons.injEq] at heq
      obtain ⟨rfl, rfl⟩ := heq
      obtain ⟨l, hl, H⟩ := ptrsV_sound h
      refine ⟨_, hl, fun m rs hr => ?_⟩
      cases rs with
      | nil => exact hr.elim
      | cons r rs => exact ⟨hr.1, H m rs hr.2⟩
    · exact h.elim

theorem map_arr {α β : Type} (f : α → β) (a : Array α) : a.map f = (a.toList.map f).toArray := by
  apply Array.ext'
  simp

theorem makeFunc_sound {fn : Fn} {fs cs : Array Operand} (ho : o.op = .makeFunc fn fs cs)
    (h : ((evsC e fs.toList).bind fun f => (evsC e cs.toList).bind fun c => ⟨fun env K => f env fun fs => c env fun cs => ptrsV fs fun fs => ptrsV cs fun cs => K (.c (.f fn fs cs))⟩ : Bx (PuR e)).go env K) : ∃ v, K v ∧ PuSem P e env o v := by
  rw [bind_go, bind_go, mk_go] at h
  obtain ⟨vf, h1, hf⟩ := evsC_sound h
  obtain ⟨vc, h2, hc⟩ := evsC_sound h1
  obtain ⟨lf, h3, Hf⟩ := ptrsV_sound h2
  obtain ⟨lc, h4, Hc⟩ := ptrsV_sound h3
  refine ⟨_, h4, fun m renv hr => ⟨.func fn (fs.map (ev renv)) (cs.map (ev renv)), fun w => ?_, fs.toList.map (ev renv), cs.toList.map (ev renv), ?_, ?_, ?_⟩⟩
  · unfold execOp; rw [ho]; rfl
  · rw [map_arr, map_arr]
  · exact Hf m _ (EvSem.all hr hf (by rw [ho]; intro x hx; simp [Op.operands]; exact .inl (by simpa using hx)))
  · exact Hc m _ (EvSem.all hr hc (by rw [ho]; intro x hx; simp [Op.operands]; exact .inr (by simpa using hx)))

/-! ### Built values -/

/-- Parts laid into cells, as the model does it. -/
def fillR (place : Nat → Option (Nat × Nat)) : List Value → List (Nat × Value) → Option (List Value)
  | cs, [] => some cs
  | cs, (i, v) :: rest => match place i with
    | none => none
    | some (off, size) => if v.cells.size ≠ size || off + v.cells.size > cs.length then none else fillR place (splice cs off v.cells.toList) rest
where
  splice (cs : List Value) (i : Nat) : List Value → List Value
    | [] => cs
    | v :: vs => splice (cs.set i v) (i + 1) vs

theorem foldl_splice (off : Nat) : ∀ (vs : List Value) (cs : Array Value) (k : Nat), (vs.zipIdx k).foldl (fun cs (p : Value × Nat) => cs.setIfInBounds (off + p.2) p.1) cs = (fillR.splice cs.toList (off + k) vs).toArray
  | [], cs, k => by simp [fillR.splice]
  | v :: vs, cs, k => by
    rw [List.zipIdx_cons, List.foldl_cons, foldl_splice off vs]
    simp [fillR.splice, Nat.add_assoc]

theorem fill_eq (place : Nat → Option (Nat × Nat)) : ∀ (ps : List (Nat × Value)) (cs : Array Value), Instr.fill place cs ps = (fillR place cs.toList ps).map List.toArray
  | [], cs => by simp [Instr.fill, fillR]
  | (i, v) :: rest, cs => by
    unfold Instr.fill fillR
    cases hp : place i with
    | none => rfl
    | some q =>
      obtain ⟨off, size⟩ := q
      simp only [Array.length_toList]
      by_cases hc : (v.cells.size ≠ size || off + v.cells.size > cs.size) = true
      · rw [if_pos hc, if_pos hc]; rfl
      · rw [if_neg hc, if_neg hc, fill_eq place rest]
        have := foldl_splice off v.cells.toList cs 0
        congr 2
        have e : Array.foldl (fun cs x => match x with | (c, j) => cs.setIfInBounds (off + j) c) cs v.cells.zipIdx = (fillR.splice cs.toList (off + 0) v.cells.toList).toArray := by
          rw [← this, ← Array.foldl_toList]
          simp
        rw [e]
        simp

theorem length_splice : ∀ (vs cs : List Value) (i : Nat), (fillR.splice cs i vs).length = cs.length
  | [], _, _ => rfl
  | v :: vs, cs, i => by unfold fillR.splice; rw [length_splice]; simp
theorem get_splice : ∀ (vs cs : List Value) (i j : Nat), i + vs.length ≤ cs.length → (fillR.splice cs i vs)[j]? = if i ≤ j ∧ j < i + vs.length then vs[j - i]? else cs[j]?
  | [], cs, i, j, _ => by unfold fillR.splice; rw [if_neg (by simp only [List.length_nil]; omega)]
  | v :: vs, cs, i, j, h => by
    simp only [List.length_cons] at h
    unfold fillR.splice
    rw [get_splice vs _ _ _ (by simp; omega)]
    by_cases h1 : i + 1 ≤ j ∧ j < i + 1 + vs.length
    · rw [if_pos h1, if_pos (by simp; omega), show j - i = (j - (i + 1)) + 1 by omega, List.getElem?_cons_succ]
    · rw [if_neg h1, List.getElem?_set]
      by_cases h2 : i = j
      · subst h2; rw [if_pos rfl, if_pos (by omega), if_pos (by simp)]; simp
      · rw [if_neg h2, if_neg (by simp; omega)]

/-- What the laying of the parts comes to. -/
theorem layC_sound {dp n : Nat} {place : Nat → Option (Nat × Nat)} : ∀ {ps : List (Nat × Operand)} {d : Lv C dp} {X : Lv C dp → Prop}, (layC e dp n place ps).go env d X →
    ∃ d', X d' ∧ ∀ m renv os (cs : List Value), OpsR m e env renv os → (∀ p ∈ ps, p.2 ∈ os) → n ≤ cs.length → TR m dp d 0 cs →
      ∃ cs', fillR place cs (ps.map fun p => (p.1, ev renv p.2)) = some cs' ∧ cs'.length = cs.length ∧ TR m dp d' 0 cs'
  | [], d, X, h => ⟨d, h, fun m renv os cs _ _ _ ht => ⟨cs, rfl, rfl, ht⟩⟩
  | (i, x) :: ps, d, X, h => by
    have h0 : (match place i with
      | some r => match Nat.ble (Nat.add r.1 r.2) n with
        | true => (evC e x).bind fun g => (layC e dp n place ps).bind fun h => fNB r.1 fun q => fNB r.2 fun s => ⟨fun env d K => g env fun v =>
        @V.rec (fun _ => Prop) (fun _ => PUnit) (fun c => iff (stC c) (iff (Nat.beq s 1) ((setC dp q).go d c fun d => h env d K) False) False) (fun dp' d' o n => iff (Nat.beq n s) (moveK dp' d' dp n o q d fun d => h env d K) False) fT ⟨⟩ fL v⟩
        | false => ⟨fun _ _ _ => False⟩
      | none => ⟨fun _ _ _ => False⟩ : Bx (Env e → Lv C dp → (Lv C dp → Prop) → Prop)).go env d X := h
    cases hp : place i with
    | none => rw [hp] at h0; exact h0.elim
    | some r =>
      obtain ⟨off, s⟩ := r
      rw [hp] at h0
      have h0 : (match Nat.ble (off + s) n with
        | true => (evC e x).bind fun g => (layC e dp n place ps).bind fun h => fNB off fun q => fNB s fun s => ⟨fun env d K => g env fun v =>
          @V.rec (fun _ => Prop) (fun _ => PUnit) (fun c => iff (stC c) (iff (Nat.beq s 1) ((setC dp q).go d c fun d => h env d K) False) False) (fun dp' d' o n => iff (Nat.beq n s) (moveK dp' d' dp n o q d fun d => h env d K) False) fT ⟨⟩ fL v⟩
        | false => ⟨fun _ _ _ => False⟩ : Bx (Env e → Lv C dp → (Lv C dp → Prop) → Prop)).go env d X := h0
      cases hble : Nat.ble (off + s) n with
      | false => rw [hble] at h0; exact h0.elim
      | true =>
      rw [hble] at h0
      have hble := ble_le hble
      simp only [bind_go, fNB_eq, mk_go] at h0
      obtain ⟨v, h1, hv⟩ := evC_sound h0
      cases v with
      | t vs => exact h1.elim
      | c c =>
        obtain ⟨hst, h2⟩ := iff_t h1
        obtain ⟨hs, h3⟩ := iff_t h2
        have hs := beq_eq hs
        subst hs
        rw [setC_eq] at h3
        obtain ⟨d', hd', H⟩ := layC_sound h3
        refine ⟨d', hd', fun m renv os cs hr hin hpl ht => ?_⟩
        have hrel : CR m c (ev renv x) := hv.of hr (hin (i, x) (by simp))
        have hsing := stC_single hrel hst
        have hcl : (ev renv x).cells = #[ev renv x] := by revert hsing; cases ev renv x <;> simp [single, Value.cells]
        have hb : off + 1 ≤ cs.length := Nat.le_trans hble hpl
        have ht1 := ht.1
        obtain ⟨cs', e1, e2, e3⟩ := H m renv os (cs.set off (ev renv x)) hr (fun p hp => hin p (by simp [hp])) (by rw [List.length_set]; exact hpl)
          ⟨by rw [List.length_set]; exact ht1, fun j u hj => by
            have hjl : j < cs.length := by
              rcases Nat.lt_or_ge j cs.length with h | h
              · exact h
              · rw [List.getElem?_eq_none (by simpa using h)] at hj; cases hj
            rw [Nat.zero_add, lget_lset _ _ _ _ _ (by omega) (by omega)]
            rw [List.getElem?_set] at hj
            by_cases hjo : off = j
            · subst hjo
              rw [if_pos rfl, if_pos hjl] at hj
              simp only [Option.some.injEq] at hj
              subst hj
              rw [if_pos rfl]
              exact ⟨hrel, hst⟩
            · rw [if_neg hjo] at hj
              rw [if_neg (fun e => hjo e.symm)]
              have := ht.2 j u hj
              rw [Nat.zero_add] at this
              exact this⟩
        refine ⟨cs', ?_, by rw [e2, List.length_set], e3⟩
        simp only [List.map_cons, fillR, hp, hcl]
        have hn : ¬ (((#[ev renv x] : Array Value).size ≠ 1 || off + (#[ev renv x] : Array Value).size > cs.length) = true) := by simp; omega
        rw [if_neg (by simpa using hn)]
        exact e1
      | a dp' dd o n' =>
        obtain ⟨hs, h2⟩ := iff_t h1
        have hs := beq_eq hs
        subst hs
        rw [moveK_iff] at h2
        obtain ⟨d', hd', H⟩ := layC_sound h2
        refine ⟨d', hd', fun m renv os cs hr hin hpl ht => ?_⟩
        obtain ⟨vs, hvs, hvl, hvt⟩ := hv.of hr (hin (i, x) (by simp))
        have hb : off + n' ≤ cs.length := Nat.le_trans hble hpl
        have ht1 := ht.1
        obtain ⟨cs', e1, e2, e3⟩ := H m renv os (fillR.splice cs off vs) hr (fun p hp => hin p (by simp [hp])) (by rw [length_splice]; exact hpl)
          ⟨by rw [length_splice]; exact ht1, fun j u hj => by
            have hjl : j < cs.length := by
              rcases Nat.lt_or_ge j cs.length with h | h
              · exact h
              · rw [List.getElem?_eq_none (by rw [length_splice]; exact h)] at hj; cases hj
            rw [Nat.zero_add, lget_lmove _ _ _ _ _ _ _ _ (by omega) (by omega)]
            rw [get_splice _ _ _ _ (by omega), hvl] at hj
            by_cases hjo : off ≤ j ∧ j < off + n'
            · rw [if_pos hjo] at hj ⊢
              exact hvt.2 _ _ hj
            · rw [if_neg hjo] at hj ⊢
              have := ht.2 j u hj
              rw [Nat.zero_add] at this
              exact this⟩
        refine ⟨cs', ?_, by rw [e2, length_splice], e3⟩
        have hcl : (ev renv x).cells = vs.toArray := by rw [hvs]; rfl
        simp only [List.map_cons, fillR, hp, hcl]
        have hn : ¬ ((vs.toArray.size ≠ n' || off + vs.toArray.size > cs.length) = true) := by simp; omega
        rw [if_neg (by simpa using hn)]
        exact e1

theorem placeT_struct {t : TypeId} {fs : Array Field} (hu : P.underlying t = some (.struct fs)) (i : Nat) : placeT P t i = (fs[i]?).map fun f => (f.offset, szT P f.type) := by
  unfold placeT
  rw [hu]
  cases h : fs[i]? <;> simp [h]

theorem run_mapM_places : ∀ (fs : List Field) (w : World), (∀ f ∈ fs, ∃ i, P.info? f.type = some i) → (fs.mapM (m := Sem) fun f => do pure (f.offset, ← sizeOf f.type)).run P w = .ok (fs.map fun f => (f.offset, szT P f.type)) w
  | [], w, _ => rfl
  | f :: fs, w, h => by
    obtain ⟨i, hi⟩ := h f (by simp)
    have hs : szT P f.type = i.size := by unfold szT; rw [hi]
    rw [List.mapM_cons]
    simp only [Sem.run_bind, Eng.run_sizeOf hi, Result.andThen_ok, Sem.run_pure, run_mapM_places fs w fun f hf => h f (by simp [hf]), List.map_cons, hs]

theorem run_placesM (w : World) : ∀ (fs : List Field), (∀ f ∈ fs, ∃ i, P.info? f.type = some i) → (fs.mapM fun f => Prod.mk f.offset <$> sizeOf f.type).run P w = .ok (fs.map fun f => (f.offset, szT P f.type)) w
  | [], _ => rfl
  | f :: fs, h => by
    obtain ⟨i, hi⟩ := h f (by simp)
    have hs : szT P f.type = i.size := by unfold szT; rw [hi]
    simp [List.mapM_cons, Eng.run_sizeOf hi, hs, run_placesM w fs fun f hf => h f (by simp [hf])]

theorem zero_tree (m : Mp) {t : TypeId} {z : Value} (h1 : zeroT P t = z.cells.toList.map cv1) (h2 : z.cells.toList.all (fun v => stC (cv1 v)) = true) {n : Nat} (hz : z.cells.size = n) (hn : n ≤ 16384) : TR m (dpN n) (tr (dpN n) (zeroT P t)) 0 z.cells.toList := by
  rw [h1]
  exact tr_rel m h2 (by rw [Array.length_toList, hz]; exact dpN_le hn)

theorem build_sound {t : TypeId} {parts : Array (Nat × Operand)} (ho : o.op = .build t parts) (h : (u_build P e t parts).go env K) : ∃ v, K v ∧ PuSem P e env o v := by
  unfold u_build at h
  split at h
  · rename_i hok
    simp only [Bool.and_eq_true] at hok
    obtain ⟨hok, hB⟩ := hok
    obtain ⟨inf, z, hinf, hz, hsz, hzs, hpos, hmax, hz1, hz2⟩ := okT_info hok
    simp only [zeroC, fNB_eq, bind_go, mk_go] at h
    rw [hsz] at h
    obtain ⟨d, hd, H⟩ := layC_sound h
    refine ⟨_, hd, fun m renv hr => ?_⟩
    have ht := zero_tree (P := P) m hz1 hz2 hzs hmax
    have hin : ∀ p ∈ parts.toList, p.2 ∈ o.op.operands.toList := by
      rw [ho]
      intro p hp
      simp only [Op.operands, List.mem_map]
      exact ⟨p, hp, rfl⟩
    have he : execOp (ev renv) o = (do pure (.value (← Instr.build t (parts.map fun (i, x) => (i, ev renv x))))) := by unfold execOp; rw [ho]
    obtain ⟨cs', e1, e2, e3⟩ := H m renv _ z.cells.toList hr hin (by rw [Array.length_toList, hzs]; exact Nat.le_refl _) ht
    have hparts : (parts.map fun (i, x) => (i, ev renv x)).toList = parts.toList.map fun p => (p.1, ev renv p.2) := by simp
    have hlen : cs'.length = inf.size := by rw [e2, Array.length_toList, hzs]
    refine pu_of (rv := .agg cs'.toArray) he (fun w => ?_) ⟨cs', rfl, hlen, e3⟩
    have hfill := fill_eq (placeT P t) (parts.toList.map fun p => (p.1, ev renv p.2)) z.cells
    rw [e1] at hfill
    unfold okB at hB
    split at hB
    · rename_i fs hu
      have hinfo : ∀ f ∈ fs.toList, ∃ i, P.info? f.type = some i := fun f hf => Option.isSome_iff_exists.1 (List.all_eq_true.1 hB f hf)
      simp [Instr.build, run_underlying hu, typeInfo, zeroValue, hinf, hz, Array.mapM_eq_mapM_toList, run_placesM w _ hinfo]
      have e9 : (fun x => Option.map (fun f => (f.offset, szT P f.type)) fs[x]?) = placeT P t := by
        funext i
        rw [placeT_struct hu]
      rw [e9, hfill]
      rfl
    · rename_i len el hu
      obtain ⟨ie, hie⟩ := Option.isSome_iff_exists.1 hB
      have hse : szT P el = ie.size := by unfold szT; rw [hie]
      simp [Instr.build, run_underlying hu, typeInfo, zeroValue, hinf, hz, Eng.run_sizeOf hie]
      have e9 : (fun i => some (i * ie.size, ie.size)) = placeT P t := by
        funext i
        unfold placeT
        rw [hu]
        show _ = some (i.mul (szT P el), szT P el)
        rw [hse]
        rfl
      rw [e9, hfill]
      rfl
    · cases hB
  · exact h.elim

/-! ### Builtins -/

theorem lenS_iff {x : V} (h : lenS x K) : (x = .c .ns ∧ K (.c (.i 3 0))) ∨ (x = .c .es ∧ K (.c (.i 3 0))) ∨ ∃ ob off len sz c, x = .c (.s ob off len sz c) ∧ K (.c (.i 3 (len : Int))) := onS_iff h

theorem foldK_sound (mx : Bool) {k : Nat} : ∀ {l : List V} {acc : Int} {K : V → Prop}, foldK mx k l acc K → ∃ n, K (.c (.i k n)) ∧ ∀ m rs, All2 (VR m) l rs →
    ∀ w, (rs.foldlM (if mx then Builtin.max2 else Builtin.min2) (.int (kd k) acc)).run P w = .ok (.int (kd k) n) w
  | [], acc, K, h => ⟨acc, fin_iff h, fun m rs hr w => by cases rs with
    | nil => rfl
    | cons _ _ => exact hr.elim⟩
  | v :: l, acc, K, h => by
    obtain ⟨j, n, rfl, h1⟩ := onI_iff (show onI v _ from h)
    obtain ⟨r, hr, H⟩ := foldK_sound mx h1
    refine ⟨r, hr, fun m rs hr w => ?_⟩
    cases rs with
    | nil => exact hr.elim
    | cons q rs =>
      have hq : q = .int (kd j) n := hr.1
      subst hq
      rw [List.foldlM_cons, Sem.run_bind]
      have key : ((if mx then Builtin.max2 else Builtin.min2) (.int (kd k) acc) (.int (kd j) n)).run P w = .ok (.int (kd k) (@Bool.rec (fun _ => Int) (@Bool.rec (fun _ => Int) n acc (leI acc n)) (@Bool.rec (fun _ => Int) acc n (leI acc n)) mx)) w := by
        rw [leI_eq]
        cases mx <;> by_cases hle : acc ≤ n <;> simp [Builtin.max2, Builtin.min2, hle] <;> omega
      rw [key]
      exact H m rs hr.2 w

theorem bi_run {c : Call} {b : Builtin} {renv : List Value} {s : Sem Value} {rv : Value} {m : Mp} {v : V} (ho : o.op = .call c) (hc : c.callee = .builtin b)
    (hb : ∀ cs, builtin b c.argTypes o.type cs (c.args.map (ev renv)) = (do pure (.value (← s)))) (hr : ∀ w, s.run P w = .ok rv w) (h : VR m v rv) : ∃ rv, (∀ w, (execOp (ev renv) o).run P w = .ok (.value rv) w) ∧ VR m v rv := by
  refine ⟨rv, fun w => ?_, h⟩
  unfold execOp
  rw [ho]
  simp only [resolve, hc, pure_bind, invoke, hb]
  rw [Sem.run_bind, hr]
  rfl

theorem mm_sound {c : Call} {b : Builtin} (mx : Bool) (hb : b = if mx then .max else .min) (ho : o.op = .call c) (hc : c.callee = .builtin b)
    (h : ((evsC e c.args.toList).bind fun g => ⟨fun env K => g env fun l => mmK mx l K⟩ : Bx (PuR e)).go env K) : ∃ v, K v ∧ PuSem P e env o v := by
  rw [bind_go, mk_go] at h
  obtain ⟨vs, h1, hv⟩ := evsC_sound h
  cases vs with
  | nil => exact h1.elim
  | cons x rest =>
    obtain ⟨k, n, rfl, h2⟩ := onI_iff (show onI x _ from h1)
    obtain ⟨r, hr, H⟩ := foldK_sound (P := P) mx h2
    refine ⟨_, hr, fun m renv hR => ?_⟩
    have hall := EvSem.all hR hv (by rw [ho]; intro x hx; simp only [Op.operands, Call.operands, hc]; simpa using hx)
    have harr : (c.args.map (ev renv)).toList = c.args.toList.map (ev renv) := by simp
    cases hl : c.args.toList.map (ev renv) with
    | nil => rw [hl] at hall; exact hall.elim
    | cons q rs =>
      rw [hl] at hall harr
      have hq : q = .int (kd k) n := hall.1
      subst hq
      cases mx with
      | true =>
        subst hb
        refine bi_run ho hc (s := Builtin.max_ c.argTypes o.type (c.args.map (ev renv))) (rv := .int (kd k) r) (fun _ => rfl) (fun w => ?_) rfl
        unfold Builtin.max_
        rw [harr]
        exact H m rs hall.2 w
      | false =>
        subst hb
        refine bi_run ho hc (s := Builtin.min_ c.argTypes o.type (c.args.map (ev renv))) (rv := .int (kd k) r) (fun _ => rfl) (fun w => ?_) rfl
        unfold Builtin.min_
        rw [harr]
        exact H m rs hall.2 w

theorem call_sound {c : Call} (ho : o.op = .call c) (h : (u_call P e c).go env K) : ∃ v, K v ∧ PuSem P e env o v := by
  unfold u_call at h
  split at h
  · rename_i hc
    split at h
    · rename_i t ts hts
      split at h
      · rename_i el hu
        rw [bind_go, mk_go] at h
        obtain ⟨vs, h1, hv⟩ := evsC_sound h
        obtain ⟨x, rfl, h2⟩ := one_iff h1
        have run : ∀ m renv, OpsR m e env renv o.op.operands.toList → ∃ rx, VR m x rx ∧ c.args.map (ev renv) = #[rx] := by
          intro m renv hR
          have hall := EvSem.all hR hv (by rw [ho]; intro x hx; simp only [Op.operands, Call.operands, hc]; simpa using hx)
          cases hl : c.args.toList.map (ev renv) with
          | nil => rw [hl] at hall; exact hall.elim
          | cons q rs => cases rs with
            | nil =>
              rw [hl] at hall
              refine ⟨q, hall.1, ?_⟩
              apply Array.ext'
              simpa using hl
            | cons _ _ => rw [hl] at hall; exact hall.2.elim
        have hty : c.argTypes[0]? = some t := by rw [← Array.getElem?_toList, hts]; rfl
        have fin : ∀ (v : V) (n : Nat), (∀ m rx, VR m x rx → ∃ a cap, rx = .slice a n cap) → v = .c (.i 3 (n : Int)) → PuSem P e env o v := by
          intro v n hx hv m renv hR
          obtain ⟨rx, hrel, harr⟩ := run m renv hR
          obtain ⟨a, cap, rfl⟩ := hx m rx hrel
          refine bi_run ho hc (s := Builtin.len_ c.argTypes o.type (c.args.map (ev renv))) (rv := .int .i64 n) (fun _ => rfl) (fun w => ?_) (by subst hv; rfl)
          rw [harr]
          simp [Builtin.len_, hty, run_underlying hu, goInt]
        rcases lenS_iff h2 with ⟨rfl, hk⟩ | ⟨rfl, hk⟩ | ⟨ob, off, len, sz, cc, rfl, hk⟩
        · exact ⟨_, hk, fin _ 0 (fun m rx hr => ⟨none, 0, hr⟩) rfl⟩
        · exact ⟨_, hk, fin _ 0 (fun m rx hr => by obtain ⟨a, cap, rfl⟩ := hr; exact ⟨_, _, rfl⟩) rfl⟩
        · exact ⟨_, hk, fin _ len (fun m rx hr => by obtain ⟨b, N, cap, _, rfl, _⟩ := hr; exact ⟨_, _, rfl⟩) rfl⟩
      · exact h.elim
    · exact h.elim
  · rename_i hc; exact mm_sound false rfl ho hc h
  · rename_i hc; exact mm_sound true rfl ho hc h
  · exact h.elim

/-- **Every pure operation.** -/
theorem pureC_sound (h : (pureC P e o.op).go env K) : ∃ v, K v ∧ PuSem P e env o v := by
  unfold pureC at h
  split at h
  · rename_i ho; exact move_sound ho h
  · rename_i ho; exact assign_sound ho h
  · rename_i ho; rw [bind_go, bind_go, bind_go, mk_go] at h; exact pick_sound ho h
  · rename_i ho; exact build_sound ho h
  · rename_i ho; rw [bind_go, mk_go] at h; exact nil_sound ho h
  · rename_i ho; rw [bind_go, bind_go, bind_go, mk_go] at h; exact binOp_sound ho h
  · rename_i ho; rw [bind_go, bind_go, mk_go] at h; exact unOp_sound ho h
  · rename_i ho; rw [bind_go, bind_go, mk_go] at h; exact convert_sound ho h
  · rename_i ho; exact makeFunc_sound ho h
  · rename_i ho; exact slice_sound ho h
  · rename_i ho; exact fieldAddr_sound ho h
  · rename_i ho; exact field_sound ho h
  · rename_i ho; exact indexAddr_sound ho h
  · rename_i ho; exact index_sound ho h
  · rename_i ho; exact extract_sound ho h
  · rename_i ho; exact call_sound ho h
  · exact h.elim
end
end Go.Mx
