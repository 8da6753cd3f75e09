/- Package bodegarun: events and steps. -/
import Derived.Test.YteaknokogenndaaGreatTurn3
set_option linter.unusedVariables false
namespace Go.Proofs.YteaknokogenndaaGreat
open Go.Eng

/-! ### How many orphans there may be -/

def alive1 (C : Comp) : Nat := if C.alive then 1 else 0
def Fab.al (F : Fab) : Nat := (F.clients.map alive1).sum
def OB (F : Fab) : Prop := F.orphans.length + 5 * F.al ≤ 1000

theorem al_set : ∀ {cs : List Comp} {i : Nat} {C C' : Comp}, cs[i]? = some C → ((cs.set i C').map alive1).sum + alive1 C = (cs.map alive1).sum + alive1 C'
  | [], i, C, C', h => by simp at h
  | a :: cs, 0, C, C', h => by simp at h; subst h; simp; omega
  | a :: cs, i + 1, C, C', h => by
    have := al_set (cs := cs) (i := i) (C := C) (C' := C') (by simpa using h)
    simp at this ⊢
    omega

structure Fine (F : Fab) : Prop where
  good : Good F
  ob : OB F

theorem Fine.le {F : Fab} (h : Fine F) : F.orphans.length ≤ 1000 := by have := h.ob; unfold OB at this; omega

theorem OB.setC {F : Fab} (h : OB F) {i : Nat} {C C' : Comp} (hc : F.clients[i]? = some C) (ha : C'.alive = C.alive) : OB { F with clients := F.clients.set i C' } := by
  have := al_set (C' := C') hc
  have e : alive1 C' = alive1 C := by unfold alive1; rw [ha]
  unfold OB Fab.al at *
  dsimp only
  omega

theorem Fine.take {F : Fab} (h : Fine F) (c : Int) : Fine (F.take c).2 := by
  refine ⟨h.good.take c, ?_⟩
  unfold Fab.take
  cases hc : F.cl c with
  | none => exact h.ob
  | some C =>
    obtain ⟨h0, h1⟩ := Fab.cl_some hc
    dsimp only
    split
    · exact h.ob
    · cases hb : C.batch with
      | none => exact h.ob
      | some ds =>
        dsimp only
        split
        · exact h.ob
        · exact h.ob.setC h1 rfl

theorem Fine.post {F : Fab} (h : Fine F) (c : Int) (vs : List Verb) : Fine (F.post c vs).2 := by
  refine ⟨h.good.post c vs, ?_⟩
  unfold Fab.post
  cases hc : F.cl c with
  | none => exact h.ob
  | some C =>
    obtain ⟨h0, h1⟩ := Fab.cl_some hc
    dsimp only
    repeat' split
    all_goals first | exact h.ob | exact h.ob.setC h1 (postFrom_same vs 0 C).1

theorem Fine.stepOrphan {F : Fab} (h : Fine F) (i : Nat) : Fine (F.stepOrphan i).2 := by
  refine ⟨h.good.stepOrphan i, ?_⟩
  unfold Fab.stepOrphan
  split
  · exact h.ob
  · split
    · exact h.ob
    · dsimp only
      have := h.ob
      unfold OB Fab.al at *
      dsimp only
      have hl : ∀ (x : Pair) (b : Prop) [Decidable b], (if b then F.orphans.eraseIdx i else F.orphans.set i x).length ≤ F.orphans.length := by
        intro x b _
        split
        · exact List.length_eraseIdx_le _ _
        · simp
      exact Nat.le_trans (Nat.add_le_add_right (hl _ _) _) this

theorem Fine.step {F : Fab} (h : Fine F) (x : Choice) : Fine (F.step x).2 := by
  refine ⟨h.good.step x, ?_⟩
  unfold Fab.step
  split
  · exact (h.stepOrphan _).ob
  split
  · exact h.ob
  split
  · exact h.ob
  rename_i C hc
  obtain ⟨h0, h1⟩ := Fab.cl_some hc
  split
  · exact h.ob
  split
  · rename_i l n hl hn
    split
    · exact h.ob
    dsimp only
    refine OB.setC (F := { F with nodes := _ }) h.ob h1 ?_
    cases (l.pair.step n).2.2 <;> rfl
  · exact h.ob

theorem Fine.drop {F : Fab} (h : Fine F) (c : Int) : Fine (F.drop c).2 := by
  refine ⟨h.good.drop c, ?_⟩
  unfold Fab.drop
  split
  · exact h.ob
  · have := h.ob
    unfold OB Fab.al at *
    exact Nat.le_trans (Nat.add_le_add_right (List.length_eraseIdx_le _ _) _) this

theorem Fine.die {F : Fab} (h : Fine F) (c : Int) : Fine (F.die c).2 := by
  refine ⟨h.good.die c, ?_⟩
  unfold Fab.die
  cases hc : F.cl c with
  | none => exact h.ob
  | some C =>
    obtain ⟨h0, h1⟩ := Fab.cl_some hc
    have hC := h.good.ok.client _ _ h1
    dsimp only
    split
    · exact h.ob
    · rename_i ha
      have ha' : C.alive = true := by simpa using ha
      have h2 := al_set (C' := { C with alive := false, lanes := [], batch := none, waiting := 0 }) h1
      have e1 : alive1 C = 1 := by unfold alive1; rw [ha']; rfl
      have e2 : alive1 { C with alive := false, lanes := [], batch := none, waiting := 0 } = 0 := rfl
      have e3 : ((C.lanes.map Lane.pair).filter (fun p => decide (0 < p.verbs.length))).length ≤ C.lanes.length := by
        have := List.length_filter_le (fun p : Pair => decide (0 < p.verbs.length)) (C.lanes.map Lane.pair)
        simpa using this
      have e4 : C.lanes.length ≤ 5 := by rw [hC.lanes, ha']; exact h.good.ok.nodes.2
      have := h.ob
      unfold OB Fab.al at *
      dsimp only
      rw [List.length_append]
      omega

theorem Fine.setN {F : Fab} (h : Fine F) (i : Nat) {n' : NodeS} (hn : n'.words.length = F.lines * 8) : Fine { F with nodes := F.nodes.set i n' } := ⟨h.good.setN i hn, h.ob⟩

theorem Fine.fresh {n c lines : Nat} (hn : 1 ≤ n ∧ n ≤ 5) (hc : 1 ≤ c ∧ c ≤ 6) (hl : 98 ≤ lines ∧ lines ≤ 256) : Fine (Fab.fresh n c lines) := by
  refine ⟨Good.fresh hn hc hl, ?_⟩
  have : ∀ (c : Nat), (((List.range c).map (bornC n)).map alive1).sum = c := by
    intro c
    induction c with
    | zero => rfl
    | succ c ih => rw [List.range_succ, List.map_append, List.map_append, List.sum_append, ih]; rfl
  unfold OB Fab.al
  show 0 + 5 * (((List.range c).map (bornC n)).map alive1).sum ≤ 1000
  rw [this]
  omega

/-! ### Steps -/

def rpick (F : Fab) (sch : List Int) (n : Nat) : Nat := if n < sch.length then (sch.getD n 0 % (F.choices.length : Int)).toNat else 0
def rstep (F : Fab) (sch : List Int) (n : Nat) : Bool × Fab := match F.choices[rpick F sch n]? with
  | none => (false, F)
  | some x => F.step x

theorem Fine.rstep {F : Fab} (h : Fine F) (sch : List Int) (n : Nat) : Fine (rstep F sch n).2 := by
  unfold Go.Proofs.YteaknokogenndaaGreat.rstep
  split
  · exact h
  · exact h.step _

theorem choices_le {F : Fab} (h : FabOk F) : F.choices.length ≤ 30 + F.orphans.length := by
  unfold Fab.choices
  rw [List.length_append, orphChoices_len]
  have h1 := compChoices_len (n := 5) 0 F.clients fun C hC => by
    obtain ⟨i, hi⟩ := List.mem_iff_getElem?.1 hC
    have h2 := (h.client i C hi).lanes
    have h3 := h.nodes.2
    split at h2 <;> omega
  have h4 := h.clients.2
  omega

theorem RStep_c {A : Nat → Prop} {χ : Nat → Tag} {w : World} {fb : Nat} {X : FabX} (h : FabAt A χ w fb X) (hf : Fine X.pure) {sch : List Int} {sa : Option Addr} {sc : Nat} (hs : Rd w sa (is sch)) (hi : ∀ x ∈ sch, I64 x) (n : Nat) :
    Does 34 [ptr fb, .slice sa sch.length sc, .int .i64 n] w fun v w' => v = .bool (rstep X.pure sch n).1 ∧ FPost A χ w fb (rstep X.pure sch n).2 w' fun _ => True := by
  have hor : X.orphans.length ≤ 100000000 := by have := hf.le; simp [FabX.pure] at this; omega
  refine does Tryz.func34 ?_
  rw [ptr, bodegarun_Step_vc]
  refine at_call (Choices_c h hf.good.ok hor) ?_
  rintro v w1 ⟨a, cap, rfl, hch⟩
  have hF1 := h.new hch.new
  refine ⟨_, _, _, rfl, bif_beq (fun h0 => ?_) (fun h0 => ?_)⟩
  · have hnil : X.pure.choices = [] := List.eq_nil_of_length_eq_zero (by omega)
    have : rstep X.pure sch n = (false, X.pure) := by unfold rstep; rw [hnil]; rfl
    rw [this]
    exact ⟨rfl, FPost.same h hch.new trivial⟩
  · refine bif_dec (fun hp => ?_) (fun hp => ?_)
    · have hlt : n < sch.length := by omega
      have hg : sch[n]? = some sch[n] := List.getElem?_eq_getElem hlt
      have hgi : (is sch)[n]? = some (.int .i64 sch[n]) := by simp [is, hg]
      have hi64 := hi _ (List.mem_of_getElem? hg)
      rcases hs.new hch.new with he | ⟨b, o, rfl, hc⟩
      · rw [he] at hgi; simp at hgi
      refine idxS_mk (by omega) (by omega) ⟨sch[n], by simpa using hc n _ hgi, ?_⟩
      have hlen : X.pure.choices.length ≤ 1000000000 := by
        have h1 := hf.le
        have h2 := choices_le hf.good.ok
        omega
      refine at_call (Pick_c _ _ _ hi64 (by omega)) ?_
      rintro v w2 ⟨rfl, rfl⟩
      have hpk : 0 ≤ sch[n] % (X.pure.choices.length : Int) ∧ sch[n] % (X.pure.choices.length : Int) < X.pure.choices.length := ⟨Int.emod_nonneg _ (by omega), Int.emod_lt_of_pos _ (by omega)⟩
      rw [if_neg (by omega)]
      refine ⟨_, rfl, ?_⟩
      have hrp : rpick X.pure sch n = (sch[n] % (X.pure.choices.length : Int)).toNat := by
        unfold rpick
        rw [if_pos hlt, List.getD_eq_getElem?_getD, hg]
        rfl
      have hcx : X.pure.choices[rpick X.pure sch n]? = some X.pure.choices[rpick X.pure sch n] := List.getElem?_eq_getElem (by omega)
      have hst : rstep X.pure sch n = X.pure.step X.pure.choices[rpick X.pure sch n] := by unfold rstep; rw [hcx]
      obtain ⟨ba, oa, rfl, hca, _⟩ := hch.own.rd.row (chrows_len _) (by omega) (chrows_get hcx)
      refine idxS_mk hpk.1 hpk.2 ?_
      rw [← hrp]
      refine ⟨_, _, _, hca, ?_⟩
      refine at_call (FStep_c hF1 hf.good.ok X.pure.choices[rpick X.pure sch n]) ?_
      rintro v w3 ⟨rfl, hp3⟩
      rw [hst]
      exact ⟨_, rfl, rfl, FPost.trans (h.refl hch.new) hp3⟩
    · have hrp : rpick X.pure sch n = 0 := by unfold rpick; rw [if_neg (by omega)]
      have hcx : X.pure.choices[0]? = some X.pure.choices[0] := List.getElem?_eq_getElem (by omega)
      have hst : rstep X.pure sch n = X.pure.step X.pure.choices[0] := by unfold rstep; rw [hrp, hcx]
      obtain ⟨ba, oa, rfl, hca, _⟩ := hch.own.rd.row (chrows_len _) (by omega) (chrows_get hcx)
      refine idxS_mk (by omega) (by omega) ?_
      refine ⟨_, _, _, hca, ?_⟩
      refine at_call (FStep_c hF1 hf.good.ok X.pure.choices[0]) ?_
      rintro v w3 ⟨rfl, hp3⟩
      rw [hst]
      exact ⟨_, rfl, rfl, FPost.trans (h.refl hch.new) hp3⟩

/-! ### Events -/

structure Event where
  at_ : Int
  kind : Int
  a : Int

def Event.cells (e : Event) : List Value := [.int .i64 e.at_, .int .i64 e.kind, .int .i64 e.a]
def Event.val (e : Event) : Value := .agg e.cells.toArray
structure Event.Ok (e : Event) : Prop where
  at_ : I64 e.at_
  kind : I64 e.kind
  a : I64 e.a

def Fab.setN (F : Fab) (i : Nat) (f : NodeS → NodeS) : Fab := match F.nodes[i]? with
  | none => F
  | some n => { F with nodes := F.nodes.set i (f n) }

def failN (n : NodeS) : NodeS := { n with down := true }
def backN (n : NodeS) : NodeS := n.back.1

theorem backN_len (n : NodeS) : (backN n).words.length = n.words.length := by
  unfold backN NodeS.back
  split <;> simp

theorem Fine.setN' {F : Fab} (h : Fine F) (i : Nat) {f : NodeS → NodeS} (hf : ∀ n, (f n).words.length = n.words.length) : Fine (F.setN i f) := by
  unfold Fab.setN
  split
  · exact h
  · rename_i n hn
    exact h.setN i (by rw [hf]; exact h.good.ok.words n (List.mem_of_getElem? hn))

def Fab.happen (F : Fab) (cs : List Int) (e : Event) : Fab :=
  if e.kind % 4 = 0 then (if cs.length = 0 then F else (F.die (cs.getD (e.a % (cs.length : Int)).toNat 0)).2)
  else if e.kind % 4 = 1 then F.setN (e.a % (F.nodes.length : Int)).toNat failN
  else if e.kind % 4 = 2 then F.setN (e.a % (F.nodes.length : Int)).toNat backN
  else (F.drop (e.a % 3)).2

theorem Fine.happen {F : Fab} (h : Fine F) (cs : List Int) (e : Event) : Fine (F.happen cs e) := by
  unfold Fab.happen
  split
  · split
    · exact h
    · exact h.die _
  · split
    · exact h.setN' _ fun _ => rfl
    · split
      · exact h.setN' _ backN_len
      · exact h.drop _

theorem Back_f {A : Nat → Prop} {χ : Nat → Tag} {w : World} {fb : Nat} {X : FabX} (h : FabAt A χ w fb X) {i : Nat} {x : NodeX} (hx : X.nodes[i]? = some x) : Does 20 [ptr x.b] w fun v w' => v = .bool x.n.back.2 ∧ FPost A χ w fb (X.pure.setN i backN) w' fun _ => True := by
  refine at_call (Back_c (h.node i x hx).node) ?_
  rintro v w1 ⟨rfl, hn, hk⟩
  obtain ⟨A', nx, hF⟩ := h.setNode hx hk hn
  refine ⟨_, rfl, rfl, A', χ, _, nx, hF, ?_, trivial⟩
  have hp : X.pure.nodes[i]? = some x.n := by simp [FabX.pure, hx]
  unfold Fab.setN
  rw [hp]
  simp [FabX.pure, List.map_set, backN]

theorem Fail_f {A : Nat → Prop} {χ : Nat → Tag} {w : World} {fb : Nat} {X : FabX} (h : FabAt A χ w fb X) {i : Nat} {x : NodeX} (hx : X.nodes[i]? = some x) : Does 24 [ptr x.b] w fun v w' => v = .tuple #[] ∧ FPost A χ w fb (X.pure.setN i failN) w' fun _ => True := by
  refine at_call (Fail_c (h.node i x hx).node) ?_
  rintro v w1 ⟨rfl, hn, hk⟩
  obtain ⟨A', nx, hF⟩ := h.setNode hx (hk.mono fun _ _ e => .inl e) hn
  refine ⟨_, rfl, rfl, A', χ, _, nx, hF, ?_, trivial⟩
  have hp : X.pure.nodes[i]? = some x.n := by simp [FabX.pure, hx]
  unfold Fab.setN
  rw [hp]
  simp [FabX.pure, List.map_set, failN]

theorem Happen_c {A : Nat → Prop} {χ : Nat → Tag} {w : World} {fb : Nat} {X : FabX} (h : FabAt A χ w fb X) (hf : Fine X.pure) {cs : List Int} {ca : Option Addr} {cc : Nat} (hs : Rd w ca (is cs)) (hcl : cs.length ≤ 1000) {e : Event} (he : e.Ok) :
    Does 32 [ptr fb, .slice ca cs.length cc, e.val] w fun v w' => v = .tuple #[] ∧ FPost A χ w fb (X.pure.happen cs e) w' fun _ => True := by
  have hor : X.orphans.length ≤ 100000000 := by have := hf.le; simp [FabX.pure] at this; omega
  refine does Tryz.func32 ?_
  refine Eq.mpr (bodegarun_Happen_vc fb ca cs.length cc e.at_ e.kind e.a w _) ?_
  rintro b1 w1 hb1 hw1
  obtain ⟨hz, hn⟩ := box_new hb1 hw1
  clear hw1
  have hF1 := h.new hn
  have hNN : X.pure.nodes.length = X.nodes.length := pure_nodes_len X
  have hN1 := hf.good.ok.nodes
  rw [hNN] at hN1
  refine ⟨_, hz.cell (i := 1) rfl, ?_⟩
  refine at_call (Pick_c _ _ _ he.kind (by omega)) ?_
  rintro v w2 ⟨rfl, rfl⟩
  rw [if_neg (by omega)]
  unfold Fab.happen
  refine ⟨_, rfl, bif_beq (fun h0 => ?_) (fun h0 => ?_)⟩
  · rw [if_pos h0]
    refine bif_dec (fun hp => ?_) (fun hp => ?_)
    · have hc0 : ¬ cs.length = 0 := by omega
      rw [if_neg hc0]
      refine ⟨_, hz.cell (i := 2) rfl, ?_⟩
      refine at_call (Pick_c _ _ _ he.a (by omega)) ?_
      rintro v w3 ⟨rfl, rfl⟩
      rw [if_neg (by omega)]
      have hpk : 0 ≤ e.a % (cs.length : Int) ∧ e.a % (cs.length : Int) < cs.length := ⟨Int.emod_nonneg _ (by omega), Int.emod_lt_of_pos _ (by omega)⟩
      have hlt : (e.a % (cs.length : Int)).toNat < cs.length := by omega
      have hg : cs[(e.a % (cs.length : Int)).toNat]? = some (cs.getD (e.a % (cs.length : Int)).toNat 0) := by
        rw [List.getD_eq_getElem?_getD, List.getElem?_eq_getElem hlt]
        rfl
      have hgi : (is cs)[(e.a % (cs.length : Int)).toNat]? = some (.int .i64 (cs.getD (e.a % (cs.length : Int)).toNat 0)) := by
        unfold is
        rw [List.getElem?_map, hg]
        rfl
      refine ⟨_, rfl, ?_⟩
      rcases hs.new hn with hq | ⟨b, o, rfl, hc⟩
      · rw [hq] at hgi; simp at hgi
      refine idxS_mk hpk.1 hpk.2 ⟨_, by simpa using hc _ _ hgi, ?_⟩
      refine at_call (Die_c hF1 hf.good.ok hor _) ?_
      rintro v w4 ⟨rfl, hp4⟩
      exact ⟨_, rfl, rfl, FPost.trans (h.refl hn) hp4⟩
    · have hc0 : cs.length = 0 := by omega
      rw [if_pos hc0]
      exact ⟨rfl, FPost.same h hn trivial⟩
  rw [if_neg h0]
  refine bif_beq (fun h1 => ?_) (fun h1 => ?_)
  · rw [if_pos h1]
    rintro w5 hw5
    have hn5 : New w2 w5 := by rw [hw5]; exact new_drew _
    clear hw5
    refine ⟨fun z => New w2 z, hn5, _, fun z hz' => (New.blk hz' hz).cell (i := 2) rfl, ?_⟩
    refine at_call (Nodes_c (hF1.new hn5)) ?_
    rintro v w6 ⟨rfl, rfl⟩
    refine ⟨_, rfl, hn5, ?_⟩
    refine at_call (Pick_c _ _ _ he.a (by omega)) ?_
    rintro v w6 ⟨rfl, rfl⟩
    rw [if_neg (by omega)]
    refine ⟨_, rfl, hn5, ?_⟩
    have hpk : 0 ≤ e.a % (X.nodes.length : Int) ∧ e.a % (X.nodes.length : Int) < X.nodes.length := ⟨Int.emod_nonneg _ (by omega), Int.emod_lt_of_pos _ (by omega)⟩
    obtain ⟨i, hi⟩ := Int.eq_ofNat_of_zero_le hpk.1
    rw [hNN]
    rw [hi] at hpk ⊢
    obtain ⟨x, hx⟩ : ∃ x, X.nodes[i]? = some x := ⟨_, List.getElem?_eq_getElem (by omega)⟩
    refine at_call (Node_some (hF1.new hn5) hx) ?_
    rintro v w6 ⟨rfl, rfl⟩
    refine ⟨_, rfl, hn5, bif_t rfl ?_⟩
    refine at_call (Fail_f (hF1.new hn5) hx) ?_
    rintro v w7 ⟨rfl, hp7⟩
    exact ⟨rfl, rfl, FPost.trans (h.refl (hn.new hn5)) hp7⟩
  rw [if_neg h1]
  refine bif_beq (fun h2 => ?_) (fun h2 => ?_)
  · rw [if_pos h2]
    rintro w5 hw5
    have hn5 : New w2 w5 := by rw [hw5]; exact new_drew _
    clear hw5
    refine ⟨fun z => New w2 z, hn5, _, fun z hz' => (New.blk hz' hz).cell (i := 2) rfl, ?_⟩
    refine at_call (Nodes_c (hF1.new hn5)) ?_
    rintro v w6 ⟨rfl, rfl⟩
    refine ⟨_, rfl, hn5, ?_⟩
    refine at_call (Pick_c _ _ _ he.a (by omega)) ?_
    rintro v w6 ⟨rfl, rfl⟩
    rw [if_neg (by omega)]
    refine ⟨_, rfl, hn5, ?_⟩
    have hpk : 0 ≤ e.a % (X.nodes.length : Int) ∧ e.a % (X.nodes.length : Int) < X.nodes.length := ⟨Int.emod_nonneg _ (by omega), Int.emod_lt_of_pos _ (by omega)⟩
    obtain ⟨i, hi⟩ := Int.eq_ofNat_of_zero_le hpk.1
    rw [hNN]
    rw [hi] at hpk ⊢
    obtain ⟨x, hx⟩ : ∃ x, X.nodes[i]? = some x := ⟨_, List.getElem?_eq_getElem (by omega)⟩
    refine at_call (Node_some (hF1.new hn5) hx) ?_
    rintro v w6 ⟨rfl, rfl⟩
    refine ⟨_, rfl, hn5, bif_t rfl ?_⟩
    refine at_call (Back_f (hF1.new hn5) hx) ?_
    rintro v w7 ⟨rfl, hp7⟩
    exact ⟨_, rfl, rfl, FPost.trans (h.refl (hn.new hn5)) hp7⟩
  rw [if_neg h2]
  refine ⟨_, hz.cell (i := 2) rfl, ?_⟩
  refine at_call (Pick_c _ _ _ he.a (by omega)) ?_
  rintro v w3 ⟨rfl, rfl⟩
  rw [if_neg (by omega)]
  refine ⟨_, rfl, ?_⟩
  refine at_call (Drop_c hF1 _ (by omega)) ?_
  rintro v w4 ⟨rfl, hp4⟩
  exact ⟨_, rfl, rfl, FPost.trans (h.refl hn) hp4⟩
end Go.Proofs.YteaknokogenndaaGreat
