/- Objects and blocks: loads, new objects, stores. -/
import Derived.Test.YtihfgcmmljnhnaaGreatMp4
import Derived.Test.YtihfgcmmljnhnaaGreatHeap
set_option linter.unusedVariables false
namespace Go.Mx
open Go.Eng

/-- The objects that are alive are blocks of the world, each its own, behind the first B blocks. -/
structure HR (m : Mp) (B : Nat) (w : World) (H : Hp) : Prop where
  size : B ≤ w.heap.size
  lim : H.next ≤ 16384
  unm : ∀ o, H.next ≤ o → m o = none
  dead : ∀ o, H.next ≤ o → o < 16384 → lget 7 H.t o = .dead
  blk : ∀ o b N, m o = some (b, N) → B ≤ b ∧ b < w.heap.size
  ob : ∀ o wr n dp d b N, lget 7 H.t o = .ob wr n dp d → m o = some (b, N) → ∃ cs T, Blk w b cs T ∧ cs.length = N ∧ n ≤ N ∧ n ≤ 4 ^ dp ∧ TR m dp d 0 (cs.take n)
  inj : ∀ o o' wr n dp d wr' n' dp' d' b N N', lget 7 H.t o = .ob wr n dp d → lget 7 H.t o' = .ob wr' n' dp' d' → m o = some (b, N) → m o' = some (b, N') → o = o'

/-- What is not in the world yet stays as it is. -/
def Gh (m m' : Mp) (H H' : Hp) : Prop := H.next ≤ H'.next ∧ ∀ o, o < H.next → m o = none → m' o = none ∧ lget 7 H'.t o = lget 7 H.t o
theorem Gh.refl (m : Mp) (H : Hp) : Gh m m H H := ⟨Nat.le_refl _, fun _ _ h => ⟨h, rfl⟩⟩
theorem Gh.trans {a b c : Mp} {x y z : Hp} (h : Gh a b x y) (k : Gh b c y z) : Gh a c x z :=
  ⟨Nat.le_trans h.1 k.1, fun o ho hn => by
    obtain ⟨h1, h2⟩ := h.2 o ho hn
    obtain ⟨k1, k2⟩ := k.2 o (Nat.lt_of_lt_of_le ho h.1) h1
    exact ⟨k1, k2.trans h2⟩⟩

theorem HR.lt {m : Mp} {B : Nat} {w : World} {H : Hp} (h : HR m B w H) {o : Nat} {p : Nat × Nat} (hm : m o = some p) : o < H.next := by
  rcases Nat.lt_or_ge o H.next with h1 | h1
  · exact h1
  · rw [h.unm o h1] at hm; cases hm

/-! ### Loads -/

theorem info_of {P : Program} {t : TypeId} {d : TypeDesc} (h : P.underlying t = some d) : ∃ i, P.info? t = some i := by
  cases hi : P.info? t with
  | some i => exact ⟨i, rfl⟩
  | none => simp [Program.underlying, hi] at h

section
variable {P : Program} {e : Nat} {env : Env e} {o : Oper} {m : Mp} {B : Nat} {w : World} {H : Hp} {renv : List Value}

theorem TR.sub {dp : Nat} {d : Lv C dp} {off n : Nat} {cs : List Value} (h : TR m dp d 0 cs) (hn : off + n ≤ cs.length) : TR m dp d off ((cs.drop off).take n) := by
  refine ⟨?_, fun i u hi => ?_⟩
  · have := h.1
    simp; omega
  · rw [List.getElem?_take] at hi
    split at hi
    · rw [List.getElem?_drop] at hi
      have := h.2 _ _ hi
      rw [Nat.zero_add] at this
      exact this
    · cases hi

/-- A load: what it yields, and that the world's cells say so. -/
theorem loadC_obj {t : TypeId} {x : Operand} {K : V → Prop} (h : (loadC P e t x).go env H K) : ∃ v ob wr n dp d, lget 7 H.t ob = .ob wr n dp d ∧ K v ∧ ∀ H2 m B w renv, lget 7 H2.t ob = .ob wr n dp d → HR m B w H2 → (∀ y, x = .tmp y → SlR m e env renv y) → ∃ rv, (Instr.loadAt t (ev renv x)).run P w = .ok rv w ∧ VR m v rv := by
  unfold loadC at h
  split at h
  · rename_i hu
    obtain ⟨dsc, hd⟩ := hasU_info hu
    split at h
    · rename_i hagg
      have hagg : isAgg? P t = true := hagg
      rw [bind_go, fNB_eq, mk_go] at h
      obtain ⟨v, h1, hv⟩ := evC_sound h
      obtain ⟨ob, off, rfl, h2⟩ := pO_iff h1
      obtain ⟨wr, n, dp, d, hg, h3⟩ := obK_iff h2
      obtain ⟨hle, h4⟩ := iff_t h3
      have hle : off + szT P t ≤ n := ble_le hle
      refine ⟨_, ob, wr, n, dp, d, hg, h4, fun H2 m B w renv hg2 hH hr => ?_⟩
      obtain ⟨b, N, hb, q1⟩ := hv m renv hr
      obtain ⟨cs, T, hblk, hcl, hnN, hdp, htr⟩ := hH.ob _ _ _ _ _ _ _ hg2 hb
      obtain ⟨inf, hinf⟩ := info_of hd
      have hsz : szT P t = inf.size := by unfold szT; rw [hinf]
      have hlen : ((cs.drop off).take inf.size).length = inf.size := by simp; omega
      have hcells : cellsAt w ⟨b, off, none⟩ 0 ((cs.drop off).take inf.size) := cellsAt_blk hblk (by rw [hlen])
      refine ⟨.agg ((cs.drop off).take inf.size).toArray, ?_, (cs.drop off).take inf.size, rfl, by rw [hlen, hsz], ?_⟩
      · have hrun := Eng.run_loadCellsFrom (P := P) (acc := #[]) hcells
        rw [hlen] at hrun
        simp [Instr.loadAt, q1, Instr.sureAddr, loadVar, run_isAgg hd, hagg, Eng.run_sizeOf hinf, loadCells, hrun]
      · have := htr.sub (off := off) (n := inf.size) (by simp; omega)
        rw [List.drop_take, List.take_take, show min inf.size (n - off) = inf.size by omega] at this
        exact this
    · rename_i hagg
      have hagg : isAgg? P t = false := hagg
      rw [bind_go, mk_go] at h
      obtain ⟨v, h1, hv⟩ := evC_sound h
      obtain ⟨ob, off, rfl, h2⟩ := pO_iff h1
      obtain ⟨wr, n, dp, d, hg, h3⟩ := obK_iff h2
      obtain ⟨hle, h4⟩ := iff_t h3
      have hle : off + 1 ≤ n := ble_le hle
      rw [getC_eq] at h4
      refine ⟨_, ob, wr, n, dp, d, hg, h4, fun H2 m B w renv hg2 hH hr => ?_⟩
      obtain ⟨b, N, hb, q1⟩ := hv m renv hr
      obtain ⟨cs, T, hblk, hcl, hnN, hdp, htr⟩ := hH.ob _ _ _ _ _ _ _ hg2 hb
      have hlt : off < cs.length := by omega
      have hc : cs[off]? = some cs[off] := List.getElem?_eq_getElem hlt
      have hcell := hblk.cell hc
      refine ⟨cs[off], ?_, ?_⟩
      · simp [Instr.loadAt, q1, Instr.sureAddr, loadVar, run_isAgg hd, hagg, hcell]
      · have := htr.2 off cs[off] (by rw [List.getElem?_take, if_pos (by omega)]; exact hc)
        rw [Nat.zero_add] at this
        exact this.1
  · exact h.elim

theorem loadC_sound {t : TypeId} {x : Operand} {K : V → Prop} (h : (loadC P e t x).go env H K) : ∃ v, K v ∧ ∀ m B w renv, HR m B w H → (∀ y, x = .tmp y → SlR m e env renv y) → ∃ rv, (Instr.loadAt t (ev renv x)).run P w = .ok rv w ∧ VR m v rv := by
  obtain ⟨v, ob, wr, n, dp, d, hg, hk, hl⟩ := loadC_obj h
  exact ⟨v, hk, fun m B w renv => hl H m B w renv hg⟩

/-! ### New objects -/

/-- The operation makes a block of cells that are those of object b, and yields what belongs to f of the object. -/
def FrSem (P : Program) (e : Nat) (env : Env e) (o : Oper) (b : Ob) (f : Nat → V) : Prop :=
  ∀ m renv, OpsR m e env renv o.op.operands.toList → ∃ (arr : List Value) (T : TypeId) (rv : Nat → Value), (∀ w, (execOp (ev renv) o).run P w = .ok (.value (rv w.heap.size)) (w.alloc (.cells arr.toArray T))) ∧
    (∃ n dp d, b = .ob true n dp d ∧ n = arr.length ∧ n ≤ 4 ^ dp ∧ TR m dp d 0 arr) ∧ ∀ m' k B, Le m m' → m' k = some (B, arr.length) → VR m' (f k) (rv B)

theorem fr_of {s : Sem Value} {rv : Nat → Value} {arr : List Value} {T : TypeId} (he : execOp (ev renv) o = (do pure (.value (← s)))) (hr : ∀ w, s.run P w = .ok (rv w.heap.size) (w.alloc (.cells arr.toArray T))) :
    ∀ w, (execOp (ev renv) o).run P w = .ok (.value (rv w.heap.size)) (w.alloc (.cells arr.toArray T)) := by
  intro w
  rw [he, Sem.run_bind, hr]
  rfl

def ptrV (B : Nat) : Value := .pointer (some ⟨B, 0, none⟩)

theorem alloc_sound {t : TypeId} {K : Ob → (Nat → V) → Prop} (ho : o.op = .alloc t) (hok : okT P t = true) (h : (zeroC P t fun n dp d => ⟨fun _ K => K (.ob true n dp d) fun o => .c (.p o 0)⟩ : Bx (FlR e)).go env K) : ∃ b f, K b f ∧ FrSem P e env o b f := by
  obtain ⟨inf, z, hinf, hz, hsz, hzs, hpos, hmax, hz1, hz2⟩ := okT_info hok
  simp only [zeroC, fNB_eq, mk_go] at h
  rw [hsz] at h
  refine ⟨_, _, h, fun m renv hr => ⟨z.cells.toList, t, ptrV, fr_of (rv := ptrV) (s := Instr.alloc t true (.tuple #[])) (by unfold execOp; rw [ho]) fun w => ?_, ⟨_, _, _, rfl, by rw [Array.length_toList, hzs], dpN_le hmax, zero_tree m hz1 hz2 hzs hmax⟩, fun m' k B hm hk => ⟨B, _, hk, rfl⟩⟩⟩
  rw [Array.toArray_toList]
  simp only [Instr.alloc, Sem.run_bind, zeroValue, Eng.run_typeInfo hinf, Result.andThen_ok, hz]
  rfl

theorem box_sound {t : TypeId} {x : Operand} {K : Ob → (Nat → V) → Prop} (ho : o.op = .box t x) (h : (f_box P e t x).go env K) : ∃ b f, K b f ∧ FrSem P e env o b f := by
  unfold f_box at h
  rw [bind_go, mk_go] at h
  obtain ⟨v, h1, hv⟩ := evC_sound h
  have he : ∀ renv, execOp (ev renv) o = (do pure (.value (← Instr.box t (ev renv x)))) := fun renv => by unfold execOp; rw [ho]
  have hx : x ∈ o.op.operands.toList := by rw [ho]; simp [Op.operands]
  have run : ∀ renv w, (Instr.box t (ev renv x)).run P w = .ok (ptrV w.heap.size) (w.alloc (.cells (ev renv x).cells.toList.toArray t)) := fun renv w => by
    rw [Array.toArray_toList]
    rfl
  cases v with
  | t vs => exact h1.elim
  | c c =>
    obtain ⟨hst, h2⟩ := iff_t h1
    refine ⟨_, _, h2, fun m renv hr => ⟨(ev renv x).cells.toList, t, ptrV, fr_of (rv := ptrV) (he renv) (run renv), ?_, fun m' k B hm hk => ⟨B, _, hk, rfl⟩⟩⟩
    have hrel : CR m c (ev renv x) := hv.of hr hx
    have hsing := stC_single hrel hst
    have hcl : (ev renv x).cells.toList = [ev renv x] := by revert hsing; cases ev renv x <;> simp [single, Value.cells]
    rw [hcl]
    refine ⟨1, 0, c, rfl, rfl, Nat.le_refl _, Nat.le_refl _, fun i u hi => ?_⟩
    cases i with
    | zero => simp at hi; subst hi; exact ⟨hrel, hst⟩
    | succ i => simp at hi
  | a dp d off sz =>
    have cells : ∀ m renv, OpsR m e env renv o.op.operands.toList → ∃ cs, (ev renv x).cells.toList = cs ∧ cs.length = sz ∧ TR m dp d off cs := by
      intro m renv hr
      obtain ⟨cs, h1, h2, h3⟩ := hv.of hr hx
      exact ⟨cs, by rw [h1]; rfl, h2, h3⟩
    rcases iff_c h1 with ⟨hb, h2⟩ | ⟨_, h2⟩
    · have hb := beq_eq hb
      subst hb
      refine ⟨_, _, h2, fun m renv hr => ⟨(ev renv x).cells.toList, t, ptrV, fr_of (rv := ptrV) (he renv) (run renv), ?_, fun m' k B hm hk => ⟨B, _, hk, rfl⟩⟩⟩
      obtain ⟨cs, e1, e2, e3⟩ := cells m renv hr
      rw [e1]
      exact ⟨_, _, _, rfl, e2.symm, by have := e3.1; omega, e3⟩
    · have h3 := fN_iff.1 h2
      obtain ⟨hle, h4⟩ := iff_t h3
      rw [moveK_iff] at h4
      have hdp := dpN_le (ble_le hle)
      refine ⟨_, _, h4, fun m renv hr => ⟨(ev renv x).cells.toList, t, ptrV, fr_of (rv := ptrV) (he renv) (run renv), ?_, fun m' k B hm hk => ⟨B, _, hk, rfl⟩⟩⟩
      obtain ⟨cs, e1, e2, e3⟩ := cells m renv hr
      rw [e1]
      refine ⟨_, _, _, rfl, e2.symm, hdp, by omega, fun i u hi => ?_⟩
      have hil : i < cs.length := by
        rcases Nat.lt_or_ge i cs.length with h | h
        · exact h
        · rw [List.getElem?_eq_none h] at hi; cases hi
      rw [Nat.zero_add, lget_lmove _ _ _ _ _ _ _ _ (by omega) (by omega), if_pos (by omega)]
      exact e3.2 _ _ hi

theorem flat_zero (m : Mp) {P : Program} {t : TypeId} {z : Value} (h1 : zeroT P t = z.cells.toList.map cv1) (h2 : z.cells.toList.all (fun v => stC (cv1 v)) = true) (k : Nat) :
    (List.replicate k (zeroT P t)).flatten = (reps k z.cells.toList).map cv1 ∧ (reps k z.cells.toList).all (fun v => stC (cv1 v)) = true := by
  unfold reps
  induction k with
  | zero => exact ⟨rfl, rfl⟩
  | succ k ih =>
    rw [List.replicate_succ, List.replicate_succ, List.flatten_cons, List.flatten_cons, List.map_append, ih.1, h1]
    exact ⟨rfl, by rw [List.all_append, h2, ih.2]; rfl⟩

theorem length_reps (k : Nat) (zs : List Value) : (reps k zs).length = k * zs.length := by
  unfold reps
  induction k with
  | zero => simp
  | succ k ih => rw [List.replicate_succ, List.flatten_cons, List.length_append, ih, Nat.succ_mul]; omega

def slV (len cap B : Nat) : Value := .slice (some ⟨B, 0, none⟩) len cap

theorem slV_rel {m' : Mp} {k B N len cap sz : Nat} (hk : m' k = some (B, N)) (hlc : len ≤ cap) (hN : cap * sz = N) : VR m' (.c (.s k 0 len sz none)) (slV len cap B) :=
  ⟨B, N, cap, hk, rfl, hlc, by show 0 + cap * sz = N; omega⟩

theorem buildSlice_sound {t : TypeId} {len : Nat} {parts : Array (Nat × Operand)} {K : Ob → (Nat → V) → Prop} (ho : o.op = .buildSlice t len parts) (h : (f_buildSlice P e t len parts).go env K) : ∃ b f, K b f ∧ FrSem P e env o b f := by
  unfold f_buildSlice at h
  split at h
  · rename_i el hel
    obtain ⟨hu, hok⟩ := elT_info hel
    obtain ⟨inf, z, hinf, hz, hsz, hzs, hpos, hmax, hz1, hz2⟩ := okT_info hok
    simp only [fNB_eq] at h
    rw [hsz] at h
    split at h
    · rename_i hle
      have hle : len * inf.size ≤ 16384 := ble_le hle
      simp only [bind_go, mk_go] at h
      obtain ⟨d, hd, H⟩ := layC_sound h
      refine ⟨_, _, hd, fun m renv hr => ?_⟩
      obtain ⟨f1, f2⟩ := flat_zero m hz1 hz2 len
      have hrl : (reps len z.cells.toList).length = len * inf.size := by rw [length_reps, Array.length_toList, hzs]
      have hdp : len * inf.size ≤ 4 ^ dpN (len * inf.size) := dpN_le hle
      have ht : TR m (dpN (len * inf.size)) (tr (dpN (len * inf.size)) (List.replicate len (zeroT P el)).flatten) 0 (reps len z.cells.toList) := by
        rw [f1]
        exact tr_rel m f2 (by rw [hrl]; exact hdp)
      have hin : ∀ p ∈ parts.toList, p.2 ∈ o.op.operands.toList := by
        rw [ho]
        intro p hp
        simp only [Op.operands, List.mem_map]
        exact ⟨p, hp, rfl⟩
      obtain ⟨cs', e1, e2, e3⟩ := H m renv _ _ hr hin (by rw [hrl]; exact Nat.le_refl _) ht
      have hfill := fill_eq (fun i => some (i.mul inf.size, inf.size)) (parts.toList.map fun p => (p.1, ev renv p.2)) (reps len z.cells.toList).toArray
      simp only [e1] at hfill
      have hcl : cs'.length = len * inf.size := by rw [e2, hrl]
      refine ⟨cs', el, slV len len, fr_of (rv := slV len len) (s := Instr.buildSlice t len (parts.map fun (i, x) => (i, ev renv x))) (by unfold execOp; rw [ho]) fun w => ?_, ⟨_, _, _, rfl, hcl.symm, hdp, e3⟩, fun m' k B hm hk => slV_rel hk (Nat.le_refl _) hcl.symm⟩
      have hrange : (Array.range (len * inf.size)).map (fun x => z.cells[x % z.cells.size]!) = (reps len z.cells.toList).toArray := by
        have := reps_eq len z.cells (by omega)
        rw [hzs] at this
        rw [hzs]
        exact this
      have h24 : ¬ 2 ^ 24 < len * inf.size := by omega
      have hparts : (parts.map fun (i, x) => (i, ev renv x)).toList = parts.toList.map fun p => (p.1, ev renv p.2) := by simp
      have hfin : ∀ cells : Array Value, cells = cs'.toArray → (do pure (Value.slice (some (← newRow el cells)) len len) : Sem Value).run P w = .ok (slV len len w.heap.size) (w.alloc (.cells cs'.toArray el)) := by
        rintro _ rfl
        rfl
      unfold Instr.buildSlice
      simp only [Sem.run_bind, run_underlying hu, Result.andThen_ok, Eng.run_sizeOf hinf]
      have h24' : ¬ (len * inf.size > 2 ^ 24) := h24
      rw [if_neg h24']
      by_cases h0 : len * inf.size = 0
      · have hl0 : len = 0 := by
          rcases Nat.mul_eq_zero.1 h0 with h | h
          · exact h
          · omega
        have hr0 : (Array.range (len * inf.size)).map (fun x => (#[] : Array Value)[x % (#[] : Array Value).size]!) = (reps len z.cells.toList).toArray := by
          rw [h0, hl0]
          apply Array.ext'
          simp [reps]
        rw [if_pos h0]
        simp only [Sem.run_bind, Sem.run_pure, Result.andThen_ok]
        rw [hr0, hparts]
        have hfill' : Instr.fill (fun i => some (i * inf.size, inf.size)) (reps len z.cells.toList).toArray (parts.toList.map fun p => (p.1, ev renv p.2)) = some cs'.toArray := hfill
        rw [hfill']
        exact hfin _ rfl
      · rw [if_neg h0]
        simp only [Sem.run_bind, Sem.run_pure, Result.andThen_ok, zeroValue, Eng.run_typeInfo hinf, hz]
        rw [hrange, hparts]
        have hfill' : Instr.fill (fun i => some (i * inf.size, inf.size)) (reps len z.cells.toList).toArray (parts.toList.map fun p => (p.1, ev renv p.2)) = some cs'.toArray := hfill
        rw [hfill']
        exact hfin _ rfl
    · exact h.elim
  · exact h.elim

theorem flat_one {α : Type} (v : α) : ∀ k, (List.replicate k [v]).flatten = List.replicate k v
  | 0 => rfl
  | k + 1 => by rw [List.replicate_succ, List.flatten_cons, flat_one v k, List.replicate_succ]; rfl

theorem value_run {s : Sem Value} {n : Next} {w' : World} (h : (do pure (.value (← s)) : Sem Next).run P w = .ok n w') : ∃ v, n = .value v ∧ s.run P w = .ok v w' := by
  rw [Sem.run_bind] at h
  cases hs : s.run P w with
  | ok v w1 =>
    rw [hs] at h
    simp only [Result.andThen_ok, Sem.run_pure, Result.ok.injEq] at h
    obtain ⟨h1, h2⟩ := h
    exact ⟨v, h1.symm, by rw [h2]⟩
  | halt hh w1 => rw [hs] at h; cases h

theorem run_make {t el : TypeId} {inf : TypeInfo} {z : Value} {kl kc : IntKind} {n cp : Nat} (hu : P.underlying t = some (.slice el)) (hinf : P.info? el = some inf) (hz : inf.zero = some z) (hzs : z.cells.size = inf.size) (hpos : 0 < inf.size)
    (hnc : n ≤ cp) (h1 : cp ≤ 140737488355328) (h2 : cp * inf.bytes ≤ 140737488355328) (w : World) : (Instr.makeSlice t (.int kl n) (.int kc cp)).run P w = .ok (slV n cp w.heap.size) (w.alloc (.cells (reps cp z.cells.toList).toArray el)) := by
  have hcb : ((cp : Int) * (inf.bytes : Int)) ≤ 140737488355328 := by
    have : ((cp : Int) * (inf.bytes : Int)) = ((cp * inf.bytes : Nat) : Int) := by simp
    rw [this]; omega
  have hmk := make_does (P := P) (env := []) (K := fun v w' => v = slV n cp w.heap.size ∧ w' = w.alloc (.cells (reps cp z.cells.toList).toArray el)) (w := w)
    (o := { dst := none, op := .makeSlice t (.const (.int kl n)) (.const (.int kc cp)), type := 0, pos := "", after := #[], guard := none }) (kl := kl) (kc := kc) (len := n) (cap := cp) rfl hu rfl rfl hinf hz hzs hpos
    ⟨by omega, by omega, hcb, by omega, fun b w1 hb hw => by subst hb hw; exact ⟨rfl, by rw [Int.toNat_natCast]⟩⟩
  rcases hmk with ⟨nx, w', hr, hk⟩ | ⟨f, args, hr, _⟩
  · obtain ⟨v, hv, hs⟩ := value_run (s := Instr.makeSlice t (.int kl n) (.int kc cp)) hr
    subst hv
    obtain ⟨rfl, rfl⟩ := hk
    exact hs
  · obtain ⟨v, hv, hs⟩ := value_run (s := Instr.makeSlice t (.int kl n) (.int kc cp)) hr
    cases hv

theorem makeSlice_sound {t : TypeId} {l c : Operand} {K : Ob → (Nat → V) → Prop} (ho : o.op = .makeSlice t l c) (h : (f_makeSlice P e t l c).go env K) : ∃ b f, K b f ∧ FrSem P e env o b f := by
  unfold f_makeSlice at h
  split at h
  · rename_i el hel
    obtain ⟨hu, hok⟩ := elT_info hel
    obtain ⟨inf, z, hinf, hz, hsz, hzs, hpos, hmax, hz1, hz2⟩ := okT_info hok
    simp only [fNB_eq, bind_go, mk_go] at h
    rw [hsz] at h
    obtain ⟨vl, h1, hl⟩ := evC_sound h
    obtain ⟨vc, h2, hc⟩ := evC_sound h1
    obtain ⟨kl, n, rfl, h3⟩ := onN_iff h2
    obtain ⟨kc', cp, rfl, h4⟩ := onN_iff h3
    obtain ⟨hnc, h5⟩ := iff_t h4
    have hnc := ble_le hnc
    obtain ⟨hr1, h6⟩ := iff_t h5
    obtain ⟨hr2, h7⟩ := iff_t h6
    have hr1 := ble_le hr1
    have hr2 : cp * byT P el ≤ 140737488355328 := ble_le hr2
    have hby : byT P el = inf.bytes := by unfold byT; rw [hinf]
    rw [hby] at hr2
    -- the object of zeros
    have key : ∃ dp d, K (.ob true (cp * inf.size) dp d) (fun o => .c (.s o 0 n inf.size none)) ∧ cp * inf.size ≤ 4 ^ dp ∧ ∀ m, TR m dp d 0 (reps cp z.cells.toList) := by
      have hrl : (reps cp z.cells.toList).length = cp * inf.size := by rw [length_reps, Array.length_toList, hzs]
      have hzl : (zeroT P el).length = inf.size := by rw [hz1, List.length_map, Array.length_toList, hzs]
      cases hzt : zeroT P el with
      | nil => rw [hzt] at hzl; simp at hzl; omega
      | cons v t =>
        rw [hzt] at h7
        cases t with
        | nil =>
          have hs1 : inf.size = 1 := by rw [← hzl, hzt]; rfl
          obtain ⟨hle, h8⟩ := iff_t (show iff (Nat.ble cp 16384) (fN (dpN cp) fun dp => K (.ob true cp dp (uni v dp)) fun o => .c (.s o 0 n inf.size none)) False from h7)
          have h9 := fN_iff.1 h8
          have hle := ble_le hle
          rw [hs1] at h9 hrl ⊢
          rw [Nat.mul_one] at hrl ⊢
          refine ⟨_, _, h9, dpN_le hle, fun m => ⟨by rw [hrl]; have := dpN_le hle; omega, fun i u hi => ?_⟩⟩
          rw [lget_uni]
          obtain ⟨f1, f2⟩ := flat_zero m hz1 hz2 cp
          have hu' : (reps cp z.cells.toList).map cv1 = List.replicate cp v := by
            rw [← f1, hzt]
            exact flat_one v cp
          have hcv : cv1 u = v := by
            have h10 : ((reps cp z.cells.toList).map cv1)[i]? = some (cv1 u) := by rw [List.getElem?_map, hi]; rfl
            rw [hu', List.getElem?_replicate] at h10
            split at h10
            · simpa using h10.symm
            · cases h10
          exact ⟨hcv ▸ cv1_rel m u, hcv ▸ List.all_eq_true.1 f2 u (List.mem_of_getElem? hi)⟩
        | cons v2 t2 =>
          have h8 := fN_iff.1 (show fN (Nat.mul cp inf.size) (fun q => obL q (List.replicate cp (v :: v2 :: t2)).flatten fun b => K b fun o => .c (.s o 0 n inf.size none)) from h7)
          obtain ⟨hle, h9⟩ := iff_t h8
          have h10 := fN_iff.1 h9
          rw [putsK_iff] at h10
          have hle : cp * inf.size ≤ 16384 := ble_le hle
          have hdp := dpN_le hle
          refine ⟨_, _, h10, hdp, fun m => ?_⟩
          obtain ⟨f1, f2⟩ := flat_zero m hz1 hz2 cp
          rw [hzt] at f1
          refine ⟨by rw [hrl, Nat.zero_add]; exact hdp, fun i u hi => ?_⟩
          have hil : i < (reps cp z.cells.toList).length := by
            rcases Nat.lt_or_ge i (reps cp z.cells.toList).length with h | h
            · exact h
            · rw [List.getElem?_eq_none h] at hi; cases hi
          have hdp2 : cp * inf.size ≤ 4 ^ dpN (cp * inf.size) := hdp
          rw [Nat.zero_add, f1]
          rw [lget_lputs _ _ _ _ _ (by rw [List.length_map, hrl, Nat.zero_add]; exact hdp2) (by rw [hrl] at hil; exact Nat.lt_of_lt_of_le hil hdp2), if_pos (Nat.zero_le _), Nat.sub_zero, List.getElem?_map, hi]
          exact ⟨cv1_rel m u, List.all_eq_true.1 f2 u (List.mem_of_getElem? hi)⟩
    obtain ⟨dp, d, hk, hdp, htr⟩ := key
    refine ⟨_, _, hk, fun m renv hr => ⟨reps cp z.cells.toList, el, slV n cp, fr_of (rv := slV n cp) (s := Instr.makeSlice t (ev renv l) (ev renv c)) (by unfold execOp; rw [ho]) fun w => ?_, ⟨_, _, _, rfl, ?_, hdp, htr m⟩, fun m' k B hm hk => slV_rel hk hnc ?_⟩⟩
    · have q1 : ev renv l = .int (kd kl) (n : Int) := hl.of hr (by rw [ho]; simp [Op.operands])
      have q2 : ev renv c = .int (kd kc') (cp : Int) := hc.of hr (by rw [ho]; simp [Op.operands])
      rw [q1, q2]
      exact run_make hu hinf hz hzs hpos hnc hr1 hr2 w
    · rw [length_reps, Array.length_toList, hzs]
    · rw [length_reps, Array.length_toList, hzs]
  · exact h.elim
end
end Go.Mx
