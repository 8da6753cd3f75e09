/- Stores, copies, appends. -/
import Derived.Test.YtihfgcmmljnhnaaGreatMp6
set_option linter.unusedVariables false
namespace Go.Mx
open Go.Eng

theorem splice_same : ∀ (vs cs : List Value) (i : Nat), Eng.splice cs i vs = fillR.splice cs i vs
  | [], _, _ => rfl
  | v :: vs, cs, i => by unfold Eng.splice fillR.splice; exact splice_same vs _ _

section
variable {P : Program} {e : Nat} {env : Env e} {o : Oper} {w0 : World} {m : Mp} {w : World} {H : Hp} {K : KV} {renv : List Value}

theorem wrK_iff {ob : Nat} {X : (n dp : Nat) → Lv C dp → Prop} (h : wrK H ob X) : ∃ n dp d, lget 7 H.t ob = .ob true n dp d ∧ X n dp d := by
  obtain ⟨wr, n, dp, d, hg, h1⟩ := obK_iff h
  obtain ⟨rfl, h2⟩ := iff_t h1
  exact ⟨n, dp, d, hg, h2⟩

/-- Cells are written into an object's block. -/
theorem store_core {ob off n dp dp2 b N : Nat} {d : Lv C dp} {d2 : Lv C dp2} {vs : List Value} (hS : St w0 m w H) (hg : lget 7 H.t ob = .ob true n dp d) (hm : m ob = some (b, N)) (hle : off + vs.length ≤ n) (hs : ∀ v ∈ vs, single v = true) (hdp : n ≤ 4 ^ dp2)
    (hcell : ∀ j, j < n → (off ≤ j ∧ j < off + vs.length → ∀ u, vs[j - off]? = some u → CR m (lget dp2 d2 j) u ∧ stC (lget dp2 d2 j) = true) ∧ (¬ (off ≤ j ∧ j < off + vs.length) → lget dp2 d2 j = lget dp d j)) :
    wrAt w ⟨b, off, none⟩ 0 vs ∧ St w0 m (puts w ⟨b, off, none⟩ 0 vs) ⟨H.next, lset 7 H.t ob (.ob true n dp2 d2)⟩ ∧ Gh m m H ⟨H.next, lset 7 H.t ob (.ob true n dp2 d2)⟩ := by
  obtain ⟨cs, T, hblk, hcl, hnN, hdp1, htr⟩ := hS.hr.ob _ _ _ _ _ _ _ hg hm
  have hB := (hS.hr.blk _ _ _ hm).1
  refine ⟨wrAt_blk hblk (by omega) hs, ⟨?_, ?_⟩, put_gh hS.hr hm⟩
  · refine hS.hr.put hm hg (keep_puts w b off 0 vs) (hblk.puts (o := off) (i := 0) (vs := vs)) (by rw [Eng.length_splice, hcl]) hnN hdp ?_
    rw [splice_same]
    refine ⟨by rw [List.length_take, length_splice]; omega, fun j u hj => ?_⟩
    rw [List.getElem?_take] at hj
    split at hj
    · rename_i hjn
      rw [Nat.zero_add]
      rw [get_splice _ _ _ _ (by omega), Nat.add_zero] at hj
      by_cases hjo : off ≤ j ∧ j < off + vs.length
      · rw [if_pos hjo] at hj
        exact (hcell j hjn).1 hjo u hj
      · rw [if_neg hjo] at hj
        rw [(hcell j hjn).2 hjo]
        have := htr.2 j u (by rw [List.getElem?_take, if_pos hjn]; exact hj)
        rw [Nat.zero_add] at this
        exact this
    · cases hj
  · exact hS.new.puts (.inr hB) _

theorem unit_run {s : Sem Unit} {R : Value → World → Prop} {w' : World} (he : execOp (ev renv) o = (do s; pure .skip)) (hr : s.run P w = .ok () w') (h : R undef w') : OpDoes P renv o R w := unit_does he hr h

theorem store_sound {t : TypeId} {x v : Operand} (ho : o.op = .store t x v) {call : Cal} (h : (o_store P e t x v).go call env H K) (hS : St w0 m w H) (hr : OpsR m e env renv o.op.operands.toList) : OpDoes P renv o (Af w0 m H K) w := by
  have hx : x ∈ o.op.operands.toList := by rw [ho]; simp [Op.operands]
  have hv : v ∈ o.op.operands.toList := by rw [ho]; simp [Op.operands]
  have he : execOp (ev renv) o = (do Instr.storeAt t (ev renv x) (ev renv v); pure .skip) := by unfold execOp; rw [ho]
  unfold o_store at h
  rw [fNB_eq] at h
  have inf_of_sz : ∀ k, szT P t = k → 0 < k → ∃ inf, P.info? t = some inf ∧ inf.size = k := by
    intro k hk hp
    unfold szT at hk
    cases hi : P.info? t with
    | none => rw [hi] at hk; simp at hk; omega
    | some inf => rw [hi] at hk; exact ⟨inf, rfl, hk⟩
  split at h
  · split at h
    rotate_left
    · exact h.elim
    rename_i hpos
    have hpos : 1 ≤ szT P t := ble_le hpos
    rw [bind_go, bind_go, mk_go] at h
    obtain ⟨va, h1, ha⟩ := evC_sound h
    obtain ⟨vv, h2, hvv⟩ := evC_sound h1
    obtain ⟨ob, off, rfl, h3⟩ := pO_iff h2
    obtain ⟨dp', d', off', sz, rfl, h4⟩ := onA_iff h3
    obtain ⟨hsz, h5⟩ := iff_t h4
    have hsz := beq_eq hsz
    obtain ⟨n, dp, d, hg, h6⟩ := wrK_iff h5
    obtain ⟨hle, h7⟩ := iff_t h6
    have hle : off + sz ≤ n := ble_le hle
    obtain ⟨b, N, hb, q1⟩ := ha.of hr hx
    obtain ⟨vs, q2, hvl, hvt⟩ := hvv.of hr hv
    obtain ⟨cs, T, hblk, hcl, hnN, hdp1, htr⟩ := hS.hr.ob _ _ _ _ _ _ _ hg hb
    have hsing : ∀ u ∈ vs, single u = true := by
      intro u hu
      obtain ⟨i, hi, rfl⟩ := List.mem_iff_getElem.1 hu
      obtain ⟨k1, k2⟩ := hvt.2 i vs[i] (List.getElem?_eq_getElem hi)
      exact stC_single k1 k2
    have fin : ∀ {dp2 : Nat} {d2 : Lv C dp2}, n ≤ 4 ^ dp2 → (∀ j, j < n → (off ≤ j ∧ j < off + vs.length → ∀ u, vs[j - off]? = some u → CR m (lget dp2 d2 j) u ∧ stC (lget dp2 d2 j) = true) ∧ (¬ (off ≤ j ∧ j < off + vs.length) → lget dp2 d2 j = lget dp d j)) →
        K (.c .un) ⟨H.next, lset 7 H.t ob (.ob true n dp2 d2)⟩ → OpDoes P renv o (Af w0 m H K) w := by
      intro dp2 d2 hdp2 hcell hk
      obtain ⟨hwr, hS', hG⟩ := store_core hS hg hb (by rw [hvl]; exact hle) hsing hdp2 hcell
      refine unit_run he ?_ ⟨m, .c .un, _, Le.refl m, rfl, hS', hG, hk⟩
      have hcells : (ev renv v).cells = vs.toArray := by rw [q2]; rfl
      obtain ⟨inf, hinf, hinfs⟩ := inf_of_sz sz hsz.symm (by omega)
      simp only [Instr.storeAt, q1, Instr.sureAddr, pure_bind, storeVar, Sem.run_bind, Eng.run_sizeOf hinf, Result.andThen_ok, hcells]
      simp [hinfs, hvl, Eng.run_storeCells hwr]
    rcases iff_c h7 with ⟨hn, h8⟩ | ⟨_, h8⟩
    · rcases iff_c h8 with ⟨ho', h9⟩ | ⟨_, h9⟩
      · have hn := beq_eq hn
        have ho' := beq_eq ho'
        subst hn ho'
        refine fin (by have := hvt.1; omega) ?_ (setOb_iff h9)
        intro j hj
        have hoff : off = 0 := by omega
        subst hoff
        refine ⟨fun _ u hu => ?_, fun hno => absurd ⟨Nat.zero_le _, by omega⟩ hno⟩
        have := hvt.2 _ u hu
        simpa using this
      · rw [moveK_iff] at h9
        refine fin hdp1 ?_ (setOb_iff h9)
        intro j hj
        rw [lget_lmove _ _ _ _ _ _ _ _ (by omega) (by omega)]
        refine ⟨fun hjo u hu => ?_, fun hno => by rw [if_neg (by omega)]⟩
        rw [if_pos (by omega)]
        exact hvt.2 _ u hu
    · rw [moveK_iff] at h8
      refine fin hdp1 ?_ (setOb_iff h8)
      intro j hj
      rw [lget_lmove _ _ _ _ _ _ _ _ (by omega) (by omega)]
      refine ⟨fun hjo u hu => ?_, fun hno => by rw [if_neg (by omega)]⟩
      rw [if_pos (by omega)]
      exact hvt.2 _ u hu
  · split at h
    · rename_i hs1
      rw [bind_go, bind_go, mk_go] at h
      obtain ⟨va, h1, ha⟩ := evC_sound h
      obtain ⟨vv, h2, hvv⟩ := evC_sound h1
      obtain ⟨ob, off, rfl, h3⟩ := pO_iff h2
      obtain ⟨c, rfl, h4⟩ := onC_iff h3
      obtain ⟨n, dp, d, hg, h5⟩ := wrK_iff h4
      obtain ⟨hst, h6⟩ := iff_t h5
      obtain ⟨hle, h7⟩ := iff_t h6
      have hle : off + 1 ≤ n := ble_le hle
      rw [setC_eq] at h7
      obtain ⟨b, N, hb, q1⟩ := ha.of hr hx
      have hrel : CR m c (ev renv v) := hvv.of hr hv
      have hsing := stC_single hrel hst
      obtain ⟨cs, T, hblk, hcl, hnN, hdp1, htr⟩ := hS.hr.ob _ _ _ _ _ _ _ hg hb
      obtain ⟨hwr, hS', hG⟩ := store_core (dp2 := dp) (d2 := lset dp d off c) (vs := [ev renv v]) hS hg hb hle (by simpa using hsing) hdp1 (by
        intro j hj
        rw [lget_lset _ _ _ _ _ (by omega) (by omega)]
        refine ⟨fun hjo u hu => ?_, fun hno => by rw [if_neg (by simp at hno; omega)]⟩
        simp at hjo
        have hjo : j = off := by omega
        subst hjo
        simp at hu
        subst hu
        rw [if_pos rfl]
        exact ⟨hrel, hst⟩)
      refine unit_run he ?_ ⟨m, .c .un, _, Le.refl m, rfl, hS', hG, setOb_iff h7⟩
      obtain ⟨inf, hinf, hinfs⟩ := inf_of_sz 1 hs1 (by omega)
      have hcells : (ev renv v).cells = #[ev renv v] := by revert hsing; cases ev renv v <;> simp [single, Value.cells]
      simp only [Instr.storeAt, q1, Instr.sureAddr, pure_bind, storeVar, Sem.run_bind, Eng.run_sizeOf hinf, Result.andThen_ok, hcells]
      simp [hinfs, Eng.run_storeCells hwr]
    · exact h.elim
end
end Go.Mx
