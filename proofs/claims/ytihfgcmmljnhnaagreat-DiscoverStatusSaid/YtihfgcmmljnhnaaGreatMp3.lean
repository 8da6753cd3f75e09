/- Operations that look at no memory: slices, structs, conversions. -/
import Derived.Test.YtihfgcmmljnhnaaGreatMp2
set_option linter.unusedVariables false
namespace Go.Mx
open Go.Eng

theorem add_off (b o i : Nat) : (⟨b, o, none⟩ : Addr).add i = ⟨b, o + i, none⟩ := by
  unfold Addr.add
  split
  · rename_i h; subst h; rfl
  · rfl

/-- What is known of a type. -/
theorem okT_info {P : Program} {t : TypeId} (h : okT P t = true) : ∃ i z, P.info? t = some i ∧ i.zero = some z ∧ szT P t = i.size ∧ z.cells.size = i.size ∧ 0 < i.size ∧ i.size ≤ 16384 ∧ zeroT P t = z.cells.toList.map cv1 ∧ z.cells.toList.all (fun v => stC (cv1 v)) = true := by
  unfold okT zeroV at h
  cases hi : P.info? t with
  | none => rw [hi] at h; cases h
  | some i =>
    rw [hi] at h
    cases hz : i.zero with
    | none => simp only [hz] at h; cases h
    | some z =>
      simp only [hz, Bool.and_eq_true] at h
      have hsz : szT P t = i.size := by unfold szT; rw [hi]
      have hze : zeroT P t = z.cells.toList.map cv1 := by unfold zeroT zeroV; rw [hi]; simp only [hz]
      obtain ⟨h1, h2, h3, h4⟩ := h
      rw [hsz] at h1 h2 h3
      rw [hze, List.all_map] at h4
      exact ⟨i, z, rfl, hz, hsz, beq_eq h1, ble_le h2, ble_le h3, hze, h4⟩

theorem elT_info {P : Program} {t el : TypeId} (h : elT P t = some el) : P.underlying t = some (.slice el) ∧ okT P el = true := by
  unfold elT at h
  split at h
  · rename_i e hu
    split at h
    · rename_i hk; simp only [Option.some.injEq] at h; subst h; exact ⟨hu, hk⟩
    · cases h
  · cases h

theorem elHM_info {P : Program} {t el : TypeId} {hi mx : Option Operand} (h : elHM P t hi mx = some el) : P.underlying t = some (.slice el) ∧ okT P el = true ∧ ¬ (hi = none ∧ mx ≠ none) := by
  unfold elHM at h
  split at h
  · rename_i hk
    obtain ⟨h1, h2⟩ := elT_info h
    refine ⟨h1, h2, ?_⟩
    rintro ⟨rfl, hm⟩
    cases mx with
    | none => exact hm rfl
    | some y => cases hk
  · cases h

theorem hasU_info {P : Program} {t : TypeId} (h : hasU P t = true) : ∃ d, P.underlying t = some d := by
  unfold hasU at h
  cases hu : P.underlying t with
  | none => rw [hu] at h; cases h
  | some d => exact ⟨d, rfl⟩

section
variable {P : Program} {e : Nat} {env : Env e} {o : Oper} {K : V → Prop}

theorem un_mk {x : Operand} (hx : x ∈ o.op.operands.toList) {vx v : V} (hv : EvSem e env x vx) (H : ∀ m renv, VR m vx (ev renv x) → ∃ rv, (∀ w, (execOp (ev renv) o).run P w = .ok (.value rv) w) ∧ VR m v rv) : PuSem P e env o v :=
  fun m renv hr => H m renv (hv.of hr hx)

theorem unOp_sound {op : UnOp} {t : TypeId} {x : Operand} (ho : o.op = .unOp op t x) (h : (evC e x).go env fun x => (unC op).go x K) : ∃ v, K v ∧ PuSem P e env o v := by
  obtain ⟨vx, h1, hx⟩ := evC_sound h
  have hm : x ∈ o.op.operands.toList := by rw [ho]; simp [Op.operands]
  have he : ∀ renv, execOp (ev renv) o = (do pure (.value (← Op.unary op (ev renv x)))) := fun renv => by unfold execOp; rw [ho]
  cases op with
  | not =>
    obtain ⟨b, rfl, h2⟩ := onB_iff h1
    refine ⟨.c (.b (!b)), by rcases h2 with ⟨rfl, h3⟩ | ⟨rfl, h3⟩ <;> exact h3, un_mk hm hx fun m renv q => ?_⟩
    have q : ev renv x = .bool b := q
    exact pu_of (he renv) (fun w => by rw [q]; simp [Op.unary]) rfl
  | neg =>
    obtain ⟨k, n, rfl, h2⟩ := onI_iff h1
    refine ⟨_, wrI_iff h2, un_mk hm hx fun m renv q => ?_⟩
    have q : ev renv x = .int (kd k) n := q
    exact pu_of (rv := .int (kd k) ((kd k).wrap (0 - n))) (he renv) (fun w => by rw [q]; simp [Op.unary, Op.intArith]) rfl
  | xor => exact h1.elim
  | plus => exact h1.elim

theorem convert_sound {src dst : TypeId} {x : Operand} (ho : o.op = .convert src dst x) (h : (evC e x).go env fun x => (convC P src dst).go x K) : ∃ v, K v ∧ PuSem P e env o v := by
  obtain ⟨vx, h1, hx⟩ := evC_sound h
  have hm : x ∈ o.op.operands.toList := by rw [ho]; simp [Op.operands]
  have he : ∀ renv, execOp (ev renv) o = (do pure (.value (← Go.convert src dst (ev renv x)))) := fun renv => by unfold execOp; rw [ho]
  unfold convC at h1
  split at h1
  · rename_i hs
    obtain ⟨ds, hs⟩ := hasU_info hs
    split at h1
    · rename_i j hd
      rw [fNB_eq, mk_go] at h1
      obtain ⟨k, n, rfl, h2⟩ := onI_iff h1
      have h3 : K (.c (.i (kc j) ((kd (kc j)).wrap n))) := by
        cases n with
        | ofNat n => exact wrN_iff h2
        | negSucc n => exact wrI_iff h2
      rw [kd_kc] at h3
      refine ⟨_, h3, un_mk hm hx fun m renv q => ?_⟩
      have q : ev renv x = .int (kd k) n := q
      exact pu_of (rv := .int j (j.wrap n)) (he renv) (fun w => by rw [q]; simp [Go.convert, run_underlying hs, run_underlying hd, Conv.intToInt]) (by show _ = Value.int (kd (kc j)) _; rw [kd_kc])
    · exact h1.elim
  · exact h1.elim

/-! ### Indices -/

theorem indexAddr_sound {t : TypeId} {x i : Operand} (ho : o.op = .indexAddr t x i) (h : (u_indexAddr P e t x i).go env K) : ∃ v, K v ∧ PuSem P e env o v := by
  have hmx : x ∈ o.op.operands.toList := by rw [ho]; simp [Op.operands]
  have hmi : i ∈ o.op.operands.toList := by rw [ho]; simp [Op.operands]
  unfold u_indexAddr at h
  split at h
  · rename_i el0 hu0
    split at h
    · rename_i el hel
      obtain ⟨hu, hok⟩ := elT_info hel
      obtain ⟨inf, z, hinf, hz, hsz, hzs, hpos, hmax, _⟩ := okT_info hok
      rw [bind_go, bind_go, fNB_eq, mk_go] at h
      obtain ⟨vx, h1, hx⟩ := evC_sound h
      obtain ⟨vi, h2, hi⟩ := evC_sound h1
      rcases onS_iff h2 with ⟨_, hf⟩ | ⟨_, hf⟩ | ⟨ob, off, len, sz, c, rfl, h3⟩
      · exact hf.elim
      · exact hf.elim
      obtain ⟨hs, h4⟩ := iff_t h3
      obtain ⟨k, n, rfl, h5⟩ := onN_iff h4
      obtain ⟨hn, h6⟩ := iff_t h5
      have hn := ble_le hn
      have h7 := fN_iff.1 h6
      refine ⟨_, h7, fun m renv hr => ?_⟩
      obtain ⟨b, N, cap, hb, q1, hlc, _⟩ := hx.of hr hmx
      have q2 : ev renv i = .int (kd k) (n : Int) := hi.of hr hmi
      refine idxS_does ho q2 hu q1 hinf ⟨⟨b, off, none⟩, rfl, by omega, by omega, b, N, hb, ?_⟩
      rw [add_off, Int.toNat_natCast, ← hsz, ← beq_eq hs]
      rfl
    · exact h.elim
  · rename_i len el hu
    split at h
    · rename_i hok
      obtain ⟨inf, z, hinf, hz, hsz, hzs, hpos, hmax, _⟩ := okT_info hok
      rw [bind_go, bind_go, fNB_eq, mk_go] at h
      obtain ⟨vx, h1, hx⟩ := evC_sound h
      obtain ⟨vi, h2, hi⟩ := evC_sound h1
      obtain ⟨ob, off, rfl, h3⟩ := pO_iff h2
      obtain ⟨k, n, rfl, h5⟩ := onN_iff h3
      obtain ⟨hn, h6⟩ := iff_t h5
      have hn := ble_le hn
      have h7 := fN_iff.1 h6
      refine ⟨_, h7, fun m renv hr => ?_⟩
      obtain ⟨b, N, hb, q1⟩ := hx.of hr hmx
      have q2 : ev renv i = .int (kd k) (n : Int) := hi.of hr hmi
      refine idxA_does ho q2 hu q1 hinf ⟨by omega, by omega, b, N, hb, ?_⟩
      rw [add_off, Int.toNat_natCast, ← hsz]
      rfl
    · exact h.elim
  · exact h.elim

/-! ### Slices -/

def OpSem (e : Nat) (env : Env e) (x : Option Operand) (v : Option V) : Prop := match x, v with
  | none, none => True
  | some x, some v => EvSem e env x v
  | _, _ => False

theorem optC_sound {x : Option Operand} {X : Option V → Prop} (h : (optC e x).go env X) : ∃ v, X v ∧ OpSem e env x v := by
  cases x with
  | none => exact ⟨none, h, trivial⟩
  | some x =>
    have h1 : ((evC e x).bind fun g => ⟨fun env K => g env fun v => K (some v)⟩ : Bx (Env e → (Option V → Prop) → Prop)).go env X := h
    rw [bind_go, mk_go] at h1
    obtain ⟨v, h2, hv⟩ := evC_sound h1
    exact ⟨some v, h2, hv⟩

theorem bndK_sound {v : Option V} {d : Nat} {X : Nat → Prop} (h : bndK v d X) : ∃ n : Nat, X n ∧ ((v = none ∧ n = d) ∨ ∃ k, v = some (.c (.i k (.ofNat n)))) := by
  cases v with
  | none => exact ⟨d, h, .inl ⟨rfl, rfl⟩⟩
  | some v =>
    obtain ⟨k, n, rfl, h1⟩ := onN_iff h
    exact ⟨n, h1, .inr ⟨k, rfl⟩⟩

theorem bnd_of {x : Option Operand} {v : Option V} (hv : OpSem e env x v) {d n : Nat} (hn : (v = none ∧ n = d) ∨ ∃ k, v = some (.c (.i k (.ofNat n)))) {m : Mp} {renv : List Value} {os : List Operand} (hr : OpsR m e env renv os)
    (hs : ∀ y, x = some y → y ∈ os) : bnd (d : Int) (x.map (ev renv)) = some (n : Int) := by
  cases x with
  | none => cases v with
    | none =>
      rcases hn with ⟨_, rfl⟩ | ⟨k, hk⟩
      · rfl
      · cases hk
    | some v => exact hv.elim
  | some x => cases v with
    | none => exact hv.elim
    | some v =>
      rcases hn with ⟨hc, _⟩ | ⟨k, hk⟩
      · cases hc
      · simp only [Option.some.injEq] at hk
        subst hk
        have : ev renv x = .int (kd k) (n : Int) := EvSem.of hv hr (hs x rfl)
        simp only [Option.map_some, this, bnd]

/-- A slice expression on a slice: what is known of the new slice's place. -/
theorem slK_rel {m : Mp} {ob off len sz b N cap l h mx : Nat} {c : Option Nat} (hb : m ob = some (b, N)) (hpos : 0 < sz) (hlc : len ≤ cap)
    (hc : match c with | some k => cap = k | none => off + cap * sz = N) (hlh : l ≤ h) (hhm : h ≤ mx) (hmc : mx ≤ cap) {v : V}
    (hv : (mx = cap ∧ c = none ∧ l = 0 ∧ v = .c (.s ob off h sz none)) ∨ (mx = cap ∧ c = none ∧ l = h ∧ v = .c .es) ∨ (mx = cap ∧ c = none ∧ l < h ∧ v = .c (.s ob (off + l * sz) (h - l) sz none)) ∨
      (mx - l = 0 ∧ v = .c (.s ob off (h - l) sz (some (mx - l)))) ∨ (mx - l ≠ 0 ∧ v = .c (.s ob (off + l * sz) (h - l) sz (some (mx - l))))) :
    VR m v (.slice (if (mx : Int) = l then some ⟨b, off, none⟩ else (some (⟨b, off, none⟩ : Addr)).map (·.add ((l : Int).toNat * sz))) ((h : Int).toNat - (l : Int).toNat) ((mx : Int).toNat - (l : Int).toNat)) := by
  simp only [Int.toNat_natCast, Option.map_some, add_off]
  rcases hv with ⟨e1, rfl, rfl, rfl⟩ | ⟨e1, rfl, rfl, rfl⟩ | ⟨e1, rfl, hlt, rfl⟩ | ⟨hz, rfl⟩ | ⟨hz, rfl⟩
  · refine ⟨b, N, cap, hb, ?_, by omega, hc⟩
    simp only [Nat.zero_mul, Nat.add_zero, Nat.sub_zero, e1]
    split <;> rfl
  · refine ⟨if (mx : Int) = l then ⟨b, off, none⟩ else ⟨b, off + l * sz, none⟩, mx - l, ?_⟩
    rw [Nat.sub_self]
    split <;> rfl
  · refine ⟨b, N, cap - l, hb, ?_, by omega, ?_⟩
    · rw [if_neg (by omega), e1]
    · show off + l * sz + (cap - l) * sz = N
      have hc : off + cap * sz = N := hc
      rw [Nat.add_assoc, ← Nat.add_mul, show l + (cap - l) = cap by omega]
      exact hc
  · refine ⟨b, N, mx - l, hb, ?_, by omega, rfl⟩
    rw [if_pos (by omega)]
  · refine ⟨b, N, mx - l, hb, ?_, by omega, rfl⟩
    rw [if_neg (by omega)]

theorem slM_iff {ob off sz l h mx : Nat} (H : slM ob off sz l h mx K) : l ≤ h ∧ h ≤ mx ∧ ∃ v, K v ∧ ((mx - l = 0 ∧ v = .c (.s ob off (h - l) sz (some (mx - l)))) ∨ (mx - l ≠ 0 ∧ v = .c (.s ob (off + l * sz) (h - l) sz (some (mx - l))))) := by
  obtain ⟨h1, H1⟩ := iff_t H
  obtain ⟨h2, H2⟩ := iff_t H1
  have H3 := fN_iff.1 H2
  have H4 := fN_iff.1 H3
  refine ⟨ble_le h1, ble_le h2, ?_⟩
  rcases iff_c H4 with ⟨hb, H5⟩ | ⟨hb, H5⟩
  · exact ⟨_, H5, .inl ⟨beq_eq hb, rfl⟩⟩
  · exact ⟨_, fN_iff.1 H5, .inr ⟨not_beq hb, rfl⟩⟩

theorem slN_iff {ob off sz l h : Nat} (H : slN ob off sz l h K) : l ≤ h ∧ ∃ v, K v ∧ ((l = 0 ∧ v = .c (.s ob off h sz none)) ∨ (l = h ∧ v = .c .es) ∨ (l < h ∧ v = .c (.s ob (off + l * sz) (h - l) sz none))) := by
  rcases iff_c H with ⟨hb, H1⟩ | ⟨hb, H1⟩
  · have := beq_eq hb; exact ⟨by omega, _, H1, .inl ⟨this, rfl⟩⟩
  · obtain ⟨h1, H2⟩ := iff_t H1
    have h1 := ble_le h1
    rcases iff_c H2 with ⟨hb, H3⟩ | ⟨hb, H3⟩
    · exact ⟨h1, _, H3, .inr (.inl ⟨beq_eq hb, rfl⟩)⟩
    · have := not_beq hb
      have H4 := fN_iff.1 H3
      have H5 := fN_iff.1 H4
      exact ⟨h1, _, H5, .inr (.inr ⟨by omega, rfl⟩)⟩

/-- There is so much of the object: within the length, or within the object's cells. -/
def EndS (H : Hp) (ob off len sz h : Nat) : Prop := h ≤ len ∨ ∃ wr n dp d, lget 7 H.t ob = .ob wr n dp d ∧ off + h * sz ≤ n

theorem obK_iff {H : Hp} {ob : Nat} {X : (wr : Bool) → (n dp : Nat) → Lv C dp → Prop} (h : obK H ob X) : ∃ wr n dp d, lget 7 H.t ob = .ob wr n dp d ∧ X wr n dp d := by
  cases H with
  | mk x t =>
    have h1 : (getC 7 ob).go t (fun b => @Ob.rec (fun _ => Prop) False X b) := h
    rw [getC_eq] at h1
    cases hb : lget 7 t ob with
    | dead => rw [hb] at h1; exact h1.elim
    | ob wr n dp d => rw [hb] at h1; exact ⟨wr, n, dp, d, rfl, h1⟩

theorem endK_iff {q : Bool} {H : Hp} {ob off len sz h : Nat} {X : Prop} (hx : endK q H ob off len sz h X) : (h ≤ len ∨ (q = true ∧ EndS H ob off len sz h)) ∧ X := by
  rcases iff_c hx with ⟨hb, h1⟩ | ⟨hb, h1⟩
  · exact ⟨.inl (ble_le hb), h1⟩
  · obtain ⟨hq, h2⟩ := iff_t h1
    obtain ⟨wr, n, dp, d, hg, h3⟩ := obK_iff h2
    obtain ⟨h4, h5⟩ := iff_t h3
    exact ⟨.inr ⟨hq, .inr ⟨wr, n, dp, d, hg, ble_le h4⟩⟩, h5⟩

/-- What a slice expression on a slice yields; objects are no longer than their blocks. -/
theorem slS_sound {t el : TypeId} {x : Operand} {lo hi mx : Option Operand} (ho : o.op = .slice t x lo hi mx) (hu : P.underlying t = some (.slice el)) (hok : okT P el = true) {q : Bool} {H : Hp} {vx : V} {vlo vhi vmx : Option V}
    (hx : EvSem e env x vx) (hlo : OpSem e env lo vlo) (hhi : OpSem e env hi vhi) (hmx : OpSem e env mx vmx) (h : slS q (szT P el) vx vlo vhi vmx H K) (hhm : ¬ (hi = none ∧ mx ≠ none)) :
    ∃ v, K v ∧ ∀ m renv, OpsR m e env renv o.op.operands.toList → (q = true → ∀ ob wr n dp d b N, lget 7 H.t ob = .ob wr n dp d → m ob = some (b, N) → n ≤ N) → ∃ rv, (∀ w, (execOp (ev renv) o).run P w = .ok (.value rv) w) ∧ VR m v rv := by
  obtain ⟨inf, z, hinf, hz, hsz, hzs, hpos, hmax, _⟩ := okT_info hok
  have mx' : x ∈ o.op.operands.toList := by rw [ho]; simp [Op.operands]
  have mlo : ∀ y, lo = some y → y ∈ o.op.operands.toList := by rintro y rfl; rw [ho]; simp [Op.operands]
  have mhi : ∀ y, hi = some y → y ∈ o.op.operands.toList := by rintro y rfl; rw [ho]; simp [Op.operands]
  have mmx : ∀ y, mx = some y → y ∈ o.op.operands.toList := by rintro y rfl; rw [ho]; simp [Op.operands]
  have pd : ∀ {renv : List Value} {m : Mp} {v : V} {a : Option Addr} {len cap : Nat} {l h' m' : Nat}, ev renv x = .slice a len cap → bnd (0 : Int) (lo.map (ev renv)) = some (l : Int) → bnd (len : Int) (hi.map (ev renv)) = some (h' : Int) → bnd (cap : Int) (mx.map (ev renv)) = some (m' : Int) →
      l ≤ h' → h' ≤ m' → m' ≤ cap → len ≤ cap → VR m v (.slice (if (m' : Int) = l then a else a.map (·.add ((l : Int).toNat * inf.size))) ((h' : Int).toNat - (l : Int).toNat) ((m' : Int).toNat - (l : Int).toNat)) →
      ∃ rv, (∀ w, (execOp (ev renv) o).run P w = .ok (.value rv) w) ∧ VR m v rv := by
    intro renv m v a len cap l h' m' q1 q2 q3 q4 b1 b2 b3 b4 hv
    exact slice_does (K := fun u => VR m v u) ho hu q1 hinf q2 q3 q4 hhm ⟨by omega, by omega, by omega, by omega, b4, hv⟩
  rcases onS_iff h with ⟨rfl, h1⟩ | ⟨_, hf⟩ | ⟨ob, off, len, sz, c, rfl, h1⟩
  · obtain ⟨l, h2, e2⟩ := bndK_sound h1
    obtain ⟨h', h3, e3⟩ := bndK_sound h2
    obtain ⟨m', h4, e4⟩ := bndK_sound h3
    obtain ⟨hb, h5⟩ := iff_t h4
    have hb : l + (h' + m') = 0 := beq_eq hb
    refine ⟨_, h5, fun m renv hr _ => ?_⟩
    have q1 : ev renv x = .slice none 0 0 := hx.of hr mx'
    refine pd q1 (bnd_of hlo e2 hr mlo) (bnd_of hhi e3 hr mhi) (bnd_of hmx e4 hr mmx) (by omega) (by omega) (by omega) (by omega) ?_
    obtain rfl : l = 0 := by omega
    obtain rfl : h' = 0 := by omega
    obtain rfl : m' = 0 := by omega
    rfl
  · exact hf.elim
  · obtain ⟨hs, h2⟩ := iff_t h1
    have hs := beq_eq hs
    subst hs
    obtain ⟨l, h3, e3⟩ := bndK_sound h2
    obtain ⟨h', h4, e4⟩ := bndK_sound h3
    -- the bound of the capacity, once the object is known
    have bound : ∀ {m : Mp} {b N cap k : Nat}, m ob = some (b, N) → len ≤ cap → off + cap * szT P el = N → (k ≤ len ∨ (q = true ∧ EndS H ob off len (szT P el) k)) → (q = true → ∀ ob wr n dp d b N, lget 7 H.t ob = .ob wr n dp d → m ob = some (b, N) → n ≤ N) → k ≤ cap := by
      intro m b N cap k hb hlc hN hk hH
      rcases hk with hk | ⟨hq, hk | ⟨wr, n, dp, d, hg, hn⟩⟩
      · omega
      · omega
      · have := hH hq _ _ _ _ _ _ _ hg hb
        have h9 : k * szT P el ≤ cap * szT P el := by omega
        exact Nat.le_of_mul_le_mul_right h9 (by rw [hsz]; exact hpos)
    cases vmx with
    | none =>
      have mxn : mx = none := by cases mx with
        | none => rfl
        | some y => exact hmx.elim
      cases c with
      | none =>
        obtain ⟨hend, h5⟩ := endK_iff (show endK q H ob off len (szT P el) h' (slN ob off (szT P el) l h' K) from h4)
        obtain ⟨hlh, v, hv, hc⟩ := slN_iff h5
        refine ⟨v, hv, fun m renv hr hH => ?_⟩
        obtain ⟨b, N, cap, hb, q1, hlc, hcap⟩ := hx.of hr mx'
        have hcap : off + cap * szT P el = N := hcap
        have hhc := bound hb hlc hcap hend hH
        refine pd (m' := cap) q1 (bnd_of hlo e3 hr mlo) (bnd_of hhi e4 hr mhi) (by rw [mxn]; rfl) hlh hhc (Nat.le_refl _) hlc ?_
        rw [← hsz]
        exact slK_rel (c := none) hb (by rw [hsz]; exact hpos) hlc hcap hlh hhc (Nat.le_refl _) (by rcases hc with ⟨a1, a2⟩ | ⟨a1, a2⟩ | ⟨a1, a2⟩ <;> simp [*])
      | some k =>
        obtain ⟨hlh, hhk, v, hv, hc⟩ := slM_iff (show slM ob off (szT P el) l h' k K from h4)
        refine ⟨v, hv, fun m renv hr hH => ?_⟩
        obtain ⟨b, N, cap, hb, q1, hlc, hcap⟩ := hx.of hr mx'
        have hcap : cap = k := hcap
        subst hcap
        refine pd (m' := cap) q1 (bnd_of hlo e3 hr mlo) (bnd_of hhi e4 hr mhi) (by rw [mxn]; rfl) hlh hhk (Nat.le_refl _) hlc ?_
        rw [← hsz]
        exact slK_rel (c := some cap) hb (by rw [hsz]; exact hpos) hlc rfl hlh hhk (Nat.le_refl _) (by rcases hc with ⟨a1, a2⟩ | ⟨a1, a2⟩ <;> simp [*])
    | some vm =>
      obtain ⟨km, m', rfl, h5⟩ := onN_iff (show onN vm _ from h4)
      obtain ⟨hend, h6⟩ := endK_iff h5
      obtain ⟨hlh, hhm', v, hv, hc⟩ := slM_iff h6
      refine ⟨v, hv, fun m renv hr hH => ?_⟩
      obtain ⟨b, N, cap, hb, q1, hlc, hcap⟩ := hx.of hr mx'
      have hmc : m' ≤ cap := by
        cases c with
        | none => exact bound hb hlc hcap hend hH
        | some k =>
          rcases hend with hk | ⟨hq, _⟩
          · omega
          · cases hq
      refine pd (m' := m') q1 (bnd_of hlo e3 hr mlo) (bnd_of hhi e4 hr mhi) (bnd_of hmx (.inr ⟨km, rfl⟩) hr mmx) hlh hhm' hmc hlc ?_
      rw [← hsz]
      exact slK_rel (c := c) hb (by rw [hsz]; exact hpos) hlc hcap hlh hhm' hmc (by rcases hc with ⟨a1, a2⟩ | ⟨a1, a2⟩ <;> simp [*])

theorem slice_sound {t : TypeId} {x : Operand} {lo hi mx : Option Operand} (ho : o.op = .slice t x lo hi mx) (h : (u_slice P e t x lo hi mx).go env K) : ∃ v, K v ∧ PuSem P e env o v := by
  unfold u_slice at h
  split at h
  · split at h
    · rename_i el hel
      obtain ⟨hu, hok, hc⟩ := elHM_info hel
      rw [bind_go, bind_go, bind_go, bind_go, fNB_eq, mk_go] at h
      obtain ⟨vx, h1, hx⟩ := evC_sound h
      obtain ⟨vlo, h2, hlo⟩ := optC_sound h1
      obtain ⟨vhi, h3, hhi⟩ := optC_sound h2
      obtain ⟨vmx, h4, hmx⟩ := optC_sound h3
      obtain ⟨v, hv, H⟩ := slS_sound ho hu hok hx hlo hhi hmx h4 hc
      exact ⟨v, hv, fun m renv hr => H m renv hr fun hq => by cases hq⟩
    · exact h.elim
  · rename_i n el hu
    split at h
    · rename_i hok
      obtain ⟨inf, z, hinf, hz, hsz, hzs, hpos, hmax, _⟩ := okT_info hok
      rw [bind_go, bind_go, bind_go, fNB_eq, mk_go] at h
      obtain ⟨vx, h1, hx⟩ := evC_sound h
      obtain ⟨vlo, h2, hlo⟩ := optC_sound h1
      obtain ⟨vhi, h3, hhi⟩ := optC_sound h2
      obtain ⟨ob, off, rfl, h4⟩ := pO_iff h3
      obtain ⟨l, h5, e5⟩ := bndK_sound h4
      obtain ⟨h', h6, e6⟩ := bndK_sound h5
      obtain ⟨hlh, hhn, v, hv, hc⟩ := slM_iff h6
      refine ⟨v, hv, fun m renv hr => ?_⟩
      obtain ⟨b, N, hb, q1⟩ := hx.of hr (by rw [ho]; simp [Op.operands])
      have q2 := bnd_of hlo e5 hr (by rintro y rfl; rw [ho]; simp [Op.operands])
      have q3 := bnd_of hhi e6 hr (by rintro y rfl; rw [ho]; simp [Op.operands])
      have he : execOp (ev renv) o = (do pure (.value (← Instr.sliceAt t (ev renv x) (lo.map (ev renv)) (hi.map (ev renv)) none))) := by unfold execOp; rw [ho]; rfl
      have hbd : ∀ w, (Instr.sliceBounds false n n (lo.map (ev renv)) (hi.map (ev renv)) none).run P w = .ok (l, h', n) w := by
        intro w
        unfold Instr.sliceBounds
        rcases bnd_some q3 with ⟨e1, e2⟩ | ⟨kh, e1⟩
        · rcases bnd_some q2 with ⟨e3, e4⟩ | ⟨kl, e3⟩
          · rw [e1, e3]
            have : h' = n := by omega
            have : l = 0 := by omega
            simp [*]
          · rw [e1, e3]
            have : h' = n := by omega
            subst this
            simp [run_sliceBound (P := P) (k := kl) (n := (l : Int)) (y := h') (by omega) (by omega)]
        · rcases bnd_some q2 with ⟨e3, e4⟩ | ⟨kl, e3⟩
          · rw [e1, e3]
            have : l = 0 := by omega
            simp [this, run_sliceBound (P := P) (k := kh) (n := (h' : Int)) (y := n) (by omega) (by omega)]
          · rw [e1, e3]
            simp [run_sliceBound (P := P) (k := kh) (n := (h' : Int)) (y := n) (by omega) (by omega), run_sliceBound (P := P) (k := kl) (n := (l : Int)) (y := h') (by omega) (by omega)]
      refine pu_of (rv := .slice (some (if n = l then ⟨b, off, none⟩ else (⟨b, off, none⟩ : Addr).add (l * inf.size))) (h' - l) (n - l)) he (fun w => ?_) ?_
      · simp [Instr.sliceAt, run_underlying hu, q1, Instr.sureAddr, hbd, Eng.run_sizeOf hinf]
      · rw [← hsz]
        have key := slK_rel (m := m) (off := off) (sz := szT P el) (h := h') (c := some n) (len := n) (cap := n) (mx := n) hb (by rw [hsz]; exact hpos) (Nat.le_refl _) rfl hlh hhn (Nat.le_refl _) (v := v) (by rcases hc with ⟨a1, a2⟩ | ⟨a1, a2⟩ <;> simp [*])
        simp only [Int.toNat_natCast, Option.map_some] at key
        by_cases hnl : n = l
        · rw [if_pos hnl]
          rw [if_pos (by omega)] at key
          exact key
        · rw [if_neg hnl]
          rw [if_neg (by omega)] at key
          exact key
    · exact h.elim
  · exact h.elim
end
end Go.Mx
