/- A range over the chunks of a slice, one round at most: what the semantics says of it. -/
import Derived.Test.YtaddcfkicmeebaaGreatMr
set_option linter.unusedVariables false
namespace Go.Mx
open Go.Eng Go.RowKit

noncomputable section
/-- A loop variable is set by one move. -/
def asgOf (p : Tmp) : Code → Option Tmp
  | .region _ ops false => match ops.toList with
    | [o] => match o.op, o.guard, o.dst with
      | .assign (.tmp x), none, some q => match Nat.beq x p with
        | true => some q
        | false => none
      | _, _, _ => none
    | _ => none
  | _ => none

/-- The iterator: over the chunks of a slice, over the keys of a map. -/
def iterK (cs : Option FuncId) (ks : List FuncId) (v : V) (C : Nat → Nat → Prop) (M : Nat → Prop) : Prop :=
  match v with
  | .c (.f (.func g) [] [some (o1, f1), some (o2, f2)]) => (match cs with
    | some ch => iff (Nat.beq g ch) (iff (Nat.beq f1 0) (iff (Nat.beq f2 0) (C o1 o2) False) False) False
    | none => False)
  | .c (.f (.func g) [] [some (o1, f1)]) => iff (inL ks g) (iff (Nat.beq f1 0) (M o1) False) False
  | _ => False
def numK (v : V) (K : Nat → Prop) : Prop :=
  match v with
  | .c (.i 3 (.ofNat n)) => K n
  | _ => False

/-- The boxes are as they were: a slice of this length, this number. -/
def stillK (H : Hp) (o1 o2 len n : Nat) (K : Prop) : Prop :=
  load1 H (.c (.p o1 0)) fun sv => onS sv False False fun _ _ l _ _ => iff (Nat.beq l len) (load1 H (.c (.p o2 0)) fun nv => numK nv fun k => iff (Nat.beq k n) K False) False

/-- No maps are there. -/
def noSpGo (t : Lv Ob 7) (K : Prop) (n : Nat) : Prop := @Nat.rec (fun _ => Prop) K (fun i ih => (getC 7 i).go t fun b => @Ob.rec (fun _ => Prop) ih (fun _ _ _ _ => ih) False f1 b) n
def noSpK (H : Hp) (K : Prop) : Prop := @Hp.rec (fun _ => Prop) (fun x t => noSpGo t K x) H

def roundK {e : Nat} (o1 o2 len n : Nat) (K : Env e → Hp → Prop) (x : Ex) (env : Env e) (H : Hp) : Prop :=
  @Ex.rec (fun _ => Prop) (stillK H o1 o2 len n (noSpK H (K env H))) (fun _ => False) False x

def chunkC (P : Program) (e : Nat) (Z : Plans) (ps : Array Tmp) (asg body : Code) : Bx (Cal → Env e → Hp → KE e → Nat → Nat → Prop) :=
  match ps.toList with
  | [p] => match asgOf p asg with
    | some q => (setE e p).bind fun sp => (setE e q).bind fun sq => (codeC P e Z body).bind fun b =>
        ⟨fun call env H K o1 o2 => load1 H (.c (.p o1 0)) fun sv => load1 H (.c (.p o2 0)) fun nv => numK nv fun n =>
          iff (Nat.ble 1 n) (iff (Nat.ble n 1000000) (onS sv (K .nrm env H) (K .nrm env H) fun o off len sz _ => iff (Nat.beq len 0) (K .nrm env H) (iff (Nat.beq sz 1) (iff (Nat.ble len n)
            (sp env (.c (.s o off len 1 (some len))) fun env1 => sq env1 (.c (.s o off len 1 (some len))) fun env2 => b call env2 H (roundK o1 o2 len n (fun _ H => K .nrm env H))) False) False)) False) False⟩
    | none => ⟨fun _ _ _ _ _ _ => False⟩
  | _ => ⟨fun _ _ _ _ _ _ => False⟩

def rfC (cs : Option FuncId) (ks : List FuncId) (P : Program) (e : Nat) (Z : Plans) (g : Operand) (ps : Array Tmp) (asg body : Code) : Bx (CoR e) :=
  (evC e g).bind fun g => (chunkC P e Z ps asg body).bind fun ck =>
    ⟨fun call env H K => g env fun v => iterK cs ks v (fun o1 o2 => ck call env H K o1 o2) (fun o1 => load1 H (.c (.p o1 0)) fun mv => onM mv fun o => mapAt H o (K .nrm env H))⟩

def noR : Code → Bool
  | .rangeFunc .. => false
  | .seq a b => noR a && noR b
  | .block _ c => noR c
  | _ => true

def codeR (cs : Option FuncId) (ks : List FuncId) (P : Program) (e : Nat) (Z : Plans) : Code → Bx (CoR e)
  | .seq a b => match noR b with
    | true => (codeR cs ks P e Z a).bind fun a => (codeC P e Z b).bind fun b => ⟨fun call env H K => a call env H (kSeq (fun env H => b call env H K) K)⟩
    | false => match noR a with
      | true => (codeC P e Z a).bind fun a => (codeR cs ks P e Z b).bind fun b => ⟨fun call env H K => a call env H (kSeq (fun env H => b call env H K) K)⟩
      | false => noCo e
  | .block id c => (codeR cs ks P e Z c).bind fun c => ⟨fun call env H K => c call env H (kBlock id K)⟩
  | .rangeFunc g ps asg body => rfC cs ks P e Z g ps asg body
  | c => codeC P e Z c

/-- All plans are sound, no loops. -/
def okR (Z : Plans) : Code → Bool
  | .seq a b => okR Z a && okR Z b
  | .block _ c => okR Z c
  | .rangeFunc _ _ _ body => okCode Z body && straight body
  | c => okCode Z c && straight c

def fnR (cs : Option FuncId) (ks : List FuncId) (P : Program) (Z : Plans) (f : FuncId) : Bx FnR :=
  match P.funcs[f]? with
  | some fn => match fn.body with
    | some c => fNB fn.ntmps fun e => match Nat.ble e 16384 with
      | false => ⟨fun _ _ _ _ => False⟩
      | true => (codeR cs ks P e Z c).bind fun c => (resC P e fn.results.toList).bind fun r => ⟨fun call args H K => iff (Nat.ble args.length e) (envK e args 0 (env0 e) fun env => c call env H fun x env H => @Ex.rec (fun _ => Prop) (r env H fun vs => retK vs H K) (fun _ => False) (r env H fun vs => retK vs H K) x) False⟩
    | none => ⟨fun _ _ _ _ => False⟩
  | none => ⟨fun _ _ _ _ => False⟩

/-- Are the plans of a function with such a range sound? -/
def okFR (P : Program) (Z : Plans) (f : FuncId) : Bool := match P.funcs[f]? with
  | some fn => match fn.body with
    | some c => okR Z c
    | none => false
  | none => false
end

/-- What the boxes hold. -/
def Boxes (b1 b2 len n : Nat) (w : World) : Prop := (∃ a cap, w.cell? ⟨b1, 0, none⟩ = some (.slice a len cap)) ∧ w.cell? ⟨b2, 0, none⟩ = some (.int .i64 (n : Int))

/-- The iterator over the chunks, where there is one chunk at most. -/
def ChunkOk (P : Program) (ch : FuncId) : Prop :=
  (∀ (args : Array Value) (w : World), (callFunc ch args).run P w = .ok (.enter ch args) w) ∧
  ∀ (b1 b2 : Nat) (a : Option Addr) (len cap n : Nat) (w0 : World), w0.cell? ⟨b1, 0, none⟩ = some (.slice a len cap) → w0.cell? ⟨b2, 0, none⟩ = some (.int .i64 (n : Int)) → 1 ≤ n → n ≤ 1000000 → len ≤ n → len ≤ cap → (len ≠ 0 → ∃ b off, a = some ⟨b, off, none⟩) →
    SeqStopsK Fence.wide 2 P ch #[.pointer (some ⟨b1, 0, none⟩), .pointer (some ⟨b2, 0, none⟩)] (fun _ : Unit => #[.slice a len len])
      (fun A B => Boxes b1 b2 len n A → Boxes b1 b2 len n B)
      (fun ys => ys = if len = 0 then [] else [()]) (fun _ => True) (if len = 0 then 0 else 1) w0

/-- The iterator over the keys of a map that is empty. -/
def KeysOk (P : Program) (ke : FuncId) : Prop :=
  (∀ (args : Array Value) (w : World), (callFunc ke args).run P w = .ok (.enter ke args) w) ∧
  ∀ (b1 b2 c : Nat) (w0 : World), w0.cell? ⟨b1, 0, none⟩ = some (.map (some b2)) → w0.heap[b2]? = some (.map #[] c) →
    SeqStopsK Fence.wide 2 P ke #[.pointer (some ⟨b1, 0, none⟩)] (fun x : Empty => nomatch x) (fun _ _ => True) (fun _ => True) (fun _ => True) 0 w0

section
variable {P : Program} {e : Nat} {w0 : Bs} {call : Cal} {m m' : Mp} {w w' : World} {H H' : Hp}

/-- The blocks of the objects. -/
abbrev own (m : Mp) (b : Nat) : Prop := ∃ o N, m o = some (b, N)

theorem St.base (hS : St w0 m w H) : St ⟨w, own m⟩ m w H :=
  ⟨⟨Nat.le_refl _, hS.hr.lim, hS.hr.unm, hS.hr.dead, fun o b N hm => ⟨.inr ⟨o, N, hm⟩, (hS.hr.blk o b N hm).2⟩, hS.hr.ob, hS.hr.inj⟩, Keep.refl _ _⟩

theorem St.rebase (hS : St w0 m w H) (h : St ⟨w, own m⟩ m' w' H') : St w0 m' w' H' := by
  refine ⟨⟨Nat.le_trans hS.hr.size h.hr.size, h.hr.lim, h.hr.unm, h.hr.dead, fun o b N hm => ⟨?_, (h.hr.blk o b N hm).2⟩, h.hr.ob, h.hr.inj⟩, hS.new.trans h.new fun i hi hm => ?_⟩
  · rcases (h.hr.blk o b N hm).1 with h1 | ⟨o', N', h1⟩
    · exact .inl (Nat.le_trans hS.hr.size h1)
    · exact (hS.hr.blk _ _ _ h1).1
  · obtain ⟨o, N, hm⟩ := hm
    rcases (hS.hr.blk _ _ _ hm).1 with h1 | h1
    · omega
    · exact h1

/-- What is no object's stays. -/
theorem St.others (hS : St w0 m w H) (h : St ⟨w, own m⟩ m' w' H') {k : Nat} {o : Obj} (hne : ¬ own m k) (hk : w.heap[k]? = some o) : w'.heap[k]? = some o :=
  (h.new.block k (Array.getElem?_eq_some_iff.1 hk).1 hne).trans hk

/-- A block of deferred calls is no object's. -/
theorem St.deferred (hS : St w0 m w H) {D : Nat} {x : Option (List Deferred)} (hk : w.heap[D]? = some (.deferred x)) {o N : Nat} : m o ≠ some (D, N) := by
  intro hm
  rcases (hS.hr.blk _ _ _ hm).2 with ⟨_, c, h⟩ | ⟨_, _, _, _, _, _, _, _, _, h⟩ | ⟨_, _, cs, T, h⟩
  · rw [hk] at h; cases h
  · rw [hk] at h; cases h
  · rw [show w.heap[D]? = _ from h] at hk; cases hk

theorem St.grown (hS : St w0 m w H) {row : Option Nat} (hg : w.grownBy w' row) (hr : ∀ r, row = some r → w0.w.heap.size ≤ r ∧ ∃ o : Obj, w.heap[r]? = some o ∧ o.isCells = false) (hne : ∀ o b N, m o = some (b, N) → some b ≠ row) : St w0 m w' H := by
  have hk := new_of_grown hg
  have same : ∀ {o b N : Nat} {x : Obj}, m o = some (b, N) → w.heap[b]? = some x → w'.heap[b]? = some x := fun hmb hb => (hk.block _ (Array.getElem?_eq_some_iff.1 hb).1 (hne _ _ _ hmb)).trans hb
  refine ⟨⟨Nat.le_trans hS.hr.size hg.size, hS.hr.lim, hS.hr.unm, hS.hr.dead, fun o b N hm => ⟨(hS.hr.blk o b N hm).1, ?_⟩, fun o wr n dp d b N h1 h2 => ?_, hS.hr.inj⟩, hS.new.trans hk fun i hi e => ?_⟩
  · rcases (hS.hr.blk o b N hm).2 with ⟨h1, c, h2⟩ | ⟨q, b', N', c, s, l, h1, h2, h3, h4⟩ | ⟨h1, h2, cs, T, h3⟩
    · exact .inl ⟨h1, c, same hm h2⟩
    · exact .inr (.inl ⟨q, b', N', c, s, l, h1, h2, same h2 h3, same hm h4⟩)
    · exact .inr (.inr ⟨h1, h2, cs, T, hk.blk h3 (hne o b N hm)⟩)
  · obtain ⟨cs, T, hb, h3⟩ := hS.hr.ob o wr n dp d b N h1 h2
    exact ⟨cs, T, hk.blk hb (hne o b N h2), h3⟩
  · have := (hr i e.symm).1
    omega

theorem noSpGo_iff {t : Lv Ob 7} {K : Prop} : ∀ {n : Nat}, noSpGo t K n → K ∧ ∀ o, o < n → lget 7 t o ≠ .mp ∧ ∀ q, lget 7 t o ≠ .it q
  | 0, h => ⟨h, fun o ho => by omega⟩
  | n + 1, h => by
    have h0 : (getC 7 n).go t (fun b => @Ob.rec (fun _ => Prop) (noSpGo t K n) (fun _ _ _ _ => noSpGo t K n) False f1 b) := h
    rw [getC_eq] at h0
    have main : noSpGo t K n ∧ lget 7 t n ≠ .mp ∧ ∀ q, lget 7 t n ≠ .it q := by
      cases hb : lget 7 t n with
      | dead => rw [hb] at h0; exact ⟨h0, (fun e => by cases e), (fun q e => by cases e)⟩
      | ob wr k dp d => rw [hb] at h0; exact ⟨h0, (fun e => by cases e), (fun q e => by cases e)⟩
      | mp => rw [hb] at h0; exact h0.elim
      | it q => rw [hb] at h0; exact h0.elim
    obtain ⟨h1, h2⟩ := noSpGo_iff main.1
    refine ⟨h1, fun o ho => ?_⟩
    by_cases e : o = n
    · subst e; exact main.2
    · exact h2 o (by omega)

theorem noSpK_iff {K : Prop} (h : noSpK H K) : K ∧ ∀ {w0 m w}, St w0 m w H → ∀ o b N, m o = some (b, N) → ∃ cs T, Blk w b cs T := by
  cases H with
  | mk x t =>
    obtain ⟨h1, h2⟩ := noSpGo_iff (show noSpGo t K x from h)
    refine ⟨h1, fun {w0 m w} hS o b N hm => ?_⟩
    have hlt : o < x := hS.hr.lt hm
    rcases (hS.hr.blk o b N hm).2 with ⟨h3, _⟩ | ⟨q, _, _, _, _, _, h3, _⟩ | ⟨_, _, h3⟩
    · exact absurd h3 (h2 o hlt).1
    · exact absurd h3 ((h2 o hlt).2 q)
    · exact h3

theorem load1_cell {o off : Nat} {K : V → Prop} (h : load1 H (.c (.p o off)) K) : ∃ c, K (.c c) ∧ ∀ {w0 m w b N}, St w0 m w H → m o = some (b, N) → ∃ u, w.cell? ⟨b, off, none⟩ = some u ∧ CR m c u := by
  have h0 : obK H o fun _ n dp d => iff (Nat.ble (Nat.succ off) n) ((getC dp off).go d fun c => K (.c c)) False := h
  obtain ⟨wr, n, dp, d, hg, h1⟩ := obK_iff h0
  obtain ⟨hle, h2⟩ := iff_t h1
  have hle := ble_le hle
  rw [getC_eq] at h2
  refine ⟨_, h2, fun {w0 m w b N} hS hm => ?_⟩
  obtain ⟨cs, T, hb, hl, hn, hd, ht⟩ := hS.hr.ob _ _ _ _ _ _ _ hg hm
  have hlt : off < cs.length := by omega
  have := (ht.2 off cs[off] (by rw [List.getElem?_take, if_pos (by omega)]; exact List.getElem?_eq_getElem hlt)).1
  rw [Nat.zero_add] at this
  exact ⟨_, hb.cell (List.getElem?_eq_getElem hlt), this⟩

theorem iterK_iff {cs : Option FuncId} {ks : List FuncId} {v : V} {C : Nat → Nat → Prop} {M : Nat → Prop} (h : iterK cs ks v C M) :
    (∃ ch o1 o2, cs = some ch ∧ v = .c (.f (.func ch) [] [some (o1, 0), some (o2, 0)]) ∧ C o1 o2) ∨ ∃ ke o1, ke ∈ ks ∧ v = .c (.f (.func ke) [] [some (o1, 0)]) ∧ M o1 := by
  unfold iterK at h
  split at h
  · split at h
    · obtain ⟨h1, h2⟩ := iff_t h
      obtain ⟨h3, h4⟩ := iff_t h2
      obtain ⟨h5, h6⟩ := iff_t h4
      exact .inl ⟨_, _, _, rfl, by rw [beq_eq h1, beq_eq h3, beq_eq h5], h6⟩
    · exact h.elim
  · obtain ⟨h1, h2⟩ := iff_t h
    obtain ⟨h3, h4⟩ := iff_t h2
    exact .inr ⟨_, _, (inL_iff _ _).1 h1, by rw [beq_eq h3], h4⟩
  · exact h.elim

theorem numK_iff {v : V} {K : Nat → Prop} (h : numK v K) : ∃ n : Nat, v = .c (.i 3 (n : Int)) ∧ K n := by
  unfold numK at h
  split at h
  · exact ⟨_, rfl, h⟩
  · exact h.elim

theorem stillK_iff {o1 o2 len n : Nat} {K : Prop} (h : stillK H o1 o2 len n K) : K ∧ ∀ {w0 m w b1 N1 b2 N2}, St w0 m w H → m o1 = some (b1, N1) → m o2 = some (b2, N2) → Boxes b1 b2 len n w := by
  unfold stillK at h
  obtain ⟨c1, h1, r1⟩ := load1_cell h
  rcases onS_iff h1 with ⟨_, h1⟩ | ⟨_, h1⟩ | ⟨o, off, l, sz, c, e1, h1⟩
  · exact h1.elim
  · exact h1.elim
  cases e1
  obtain ⟨hl, h2⟩ := iff_t h1
  have hl := beq_eq hl
  subst hl
  obtain ⟨c2, h3, r2⟩ := load1_cell h2
  obtain ⟨k, e2, h4⟩ := numK_iff h3
  cases e2
  obtain ⟨hk, h5⟩ := iff_t h4
  have hk := beq_eq hk
  subst hk
  refine ⟨h5, fun {w0 m w b1 N1 b2 N2} hS hm1 hm2 => ?_⟩
  obtain ⟨u1, hc1, k1⟩ := r1 hS hm1
  obtain ⟨u2, hc2, k2⟩ := r2 hS hm2
  obtain ⟨b, n', cap, _, rfl, _⟩ := k1
  have k2 : u2 = .int .i64 (k : Int) := k2
  subst k2
  exact ⟨⟨_, _, hc1⟩, hc2⟩

theorem asgOf_iff {p q : Tmp} {asg : Code} (h : asgOf p asg = some q) : ∃ id ops o, asg = .region id ops false ∧ ops.toList = [o] ∧ o.op = .assign (.tmp p) ∧ o.guard = none ∧ o.dst = some q := by
  unfold asgOf at h
  split at h
  · split at h
    · rename_i o ho
      split at h
      · rename_i h1 h2 h3
        split at h
        · rename_i hb
          cases h
          have := beq_eq hb
          subst this
          exact ⟨_, _, o, rfl, ho, h1, h2, h3⟩
        · cases h
      · cases h
    · cases h
  · cases h

theorem move_wpIn {F : Fence} (hF : WideF F) {n id : Nat} {ops : Array Oper} {o : Oper} {p q : Tmp} (hops : ops.toList = [o]) (h1 : o.op = .assign (.tmp p)) (h2 : o.guard = none) (h3 : o.dst = some q) {renv : List Value} {Q : Exit → Act → World → Prop}
    (hq : Q .normal (actD [] (renv.set q (ev renv (.tmp p)))) w) : (Code.region id ops false).wpIn F n P Q (actD [] renv) w := by
  refine wpIn_region_list ?_
  rw [hops]
  unfold wpListIn
  have ht : (actD [] renv).tmps = (act renv).tmps := rfl
  rw [ht, if_pos (show Region.wanted o (yielded ops (act renv).tmps) = true from wanted_none h2)]
  refine ⟨fun f _ => hF.fn f, ?_⟩
  have hd : noDf o = true := by simp [noDf, h1]
  rw [hF.sem hd, evalD]
  have hr : (execOp (ev renv) o).run P w = .ok (.value (ev renv (.tmp p))) w := by
    unfold execOp
    rw [h1]
    rfl
  rw [hr, Oper.uponIn_value]
  unfold wpListIn
  have e : (actD [] renv).put o.dst (ev renv (.tmp p)) = actD [] (renv.set q (ev renv (.tmp p))) := by
    rw [h3]
    simp [Act.put, actD]
  rw [e]
  exact hq

/-! ### The range -/

def OkD (w0 : Bs) (ds : List Deferred) (w : World) : Prop := ds = [] ∨ ∃ D, ds = [{ target := .collected D, args := #[] }] ∧ w0.w.heap.size ≤ D ∧ w.heap[D]? = some (.deferred (some []))

def QR (w0 : Bs) (m : Mp) (H : Hp) (K : KE e) : Exit → Act → World → Prop
  | .panic _, _, _ => False
  | .outgrown, _, _ => False
  | x, a, w => OkD w0 a.defers w ∧ KQ w0 m H K x a.tmps.toList w

theorem QR.env {K : KE e} {x : Exit} {a : Act} (h : QR w0 m H K x a w) : ((∀ c, x ≠ .panic c) ∧ x ≠ .outgrown) ∧ ∃ ds env, a = actD ds env ∧ OkD w0 ds w ∧ KQ w0 m H K x env w := by
  have mk : ∀ (a : Act), a = actD a.defers a.tmps.toList := fun a => by
    cases a with
    | mk t d => simp [actD]
  cases x with
  | panic c => exact h.elim
  | outgrown => exact h.elim
  | normal => exact ⟨⟨fun _ => by simp, by simp⟩, _, _, mk a, h.1, h.2⟩
  | exit i => exact ⟨⟨fun _ => by simp, by simp⟩, _, _, mk a, h.1, h.2⟩
  | goto i => exact ⟨⟨fun _ => by simp, by simp⟩, _, _, mk a, h.1, h.2⟩
  | ret => exact ⟨⟨fun _ => by simp, by simp⟩, _, _, mk a, h.1, h.2⟩

theorem QR.mk {K : KE e} {x : Exit} {ds : List Deferred} {env : List Value} (hx : (∀ c, x ≠ .panic c) ∧ x ≠ .outgrown) (hd : OkD w0 ds w) (h : KQ w0 m H K x env w) : QR w0 m H K x (actD ds env) w := by
  cases x with
  | panic c => exact absurd rfl (hx.1 c)
  | outgrown => exact absurd rfl hx.2
  | _ => exact ⟨hd, by simpa [actD] using h⟩

theorem leaf_sound (hm : P.follows .mixedOrders = true) (he : e ≤ 16384) (hC : ∀ w0, CallOk P w0 call) {Z : Plans} {c : Code} {env : Env e} {K : KE e} {renv : List Value} {ds : List Deferred} (hz : okCode Z c = true) (hd : straight c = true)
    (h : (codeC P e Z c).go call env H K) (hS : St w0 m w H) (hE : ER m e env renv) (hD : OkD w0 ds w) : c.wpIn Fence.wide 3 P (QR w0 m H K) (actD ds renv) w := by
  refine wpIn_mono (codeD_sound hm wideF_wide he (hC ⟨w, own m⟩) c env H K renv w m hz hd h hS.base hE) fun x a w' hq0 => ?_
  obtain ⟨hx, env', ha, hq⟩ := liftD_env hq0
  subst ha
  have key : ∀ {X : Env e → Hp → Prop}, Bh ⟨w, own m⟩ m H X env' w' → Bh w0 m H X env' w' ∧ OkD w0 ds w' := by
    rintro X ⟨m', env2, H', h1, h2, h3, h4, h5⟩
    refine ⟨⟨m', env2, H', h1, hS.rebase h2, h3, h4, h5⟩, ?_⟩
    rcases hD with h | ⟨D, h, hle, hk⟩
    · exact .inl h
    · exact .inr ⟨D, h, hle, hS.others h2 (fun ⟨ob, N, hmb⟩ => hS.deferred hk hmb) hk⟩
  cases x with
  | panic c => exact absurd rfl (hx.1 c)
  | outgrown => exact absurd rfl hx.2
  | normal => obtain ⟨h1, h2⟩ := key hq; exact QR.mk hx h2 h1
  | exit i => obtain ⟨h1, h2⟩ := key hq; exact QR.mk hx h2 h1
  | ret => obtain ⟨h1, h2⟩ := key hq; exact QR.mk hx h2 h1
  | goto i => exact hq.elim

theorem rf_core (hm : P.follows .mixedOrders = true) {ch : FuncId} (hI : ChunkOk P ch) (he : e ≤ 16384) (hC : ∀ w0, CallOk P w0 call) {Z : Plans} {g : Operand} {p q : Tmp} {id : Nat} {ops : Array Oper} {o : Oper} {body : Code} {env : Env e} {K : KE e} {renv : List Value}
    (hops : ops.toList = [o]) (ho1 : o.op = .assign (.tmp p)) (ho2 : o.guard = none) (ho3 : o.dst = some q) (hz : okCode Z body = true) (hd : straight body = true) (hS : St w0 m w H) (hE : ER m e env renv)
    {o1 o2 b1 N1 b2 N2 n : Nat} (hm1 : m o1 = some (b1, N1)) (hm2 : m o2 = some (b2, N2)) (hg : ev renv g = .func (.func ch) #[] #[.pointer (some ⟨b1, 0, none⟩), .pointer (some ⟨b2, 0, none⟩)]) {a : Option Addr} {len cap : Nat}
    (hc1 : w.cell? ⟨b1, 0, none⟩ = some (.slice a len cap)) (hc2 : w.cell? ⟨b2, 0, none⟩ = some (.int .i64 (n : Int))) (hn1 : 1 ≤ n) (hn2 : n ≤ 1000000) (hln : len ≤ n) (hlc : len ≤ cap) (ha : len ≠ 0 → ∃ b off, a = some ⟨b, off, none⟩)
    (hk0 : len = 0 → K .nrm env H)
    (hk1 : len ≠ 0 → ∃ c, CR m c (.slice a len len) ∧ (setE e p).go env (.c c) fun env1 => (setE e q).go env1 (.c c) fun env2 => (codeC P e Z body).go call env2 H (roundK o1 o2 len n (fun _ H => K .nrm env H))) :
    (Code.rangeFunc g #[p] (.region id ops false) body).wpIn Fence.wide 3 P (QR w0 m H K) (actD [] renv) w := by
  have hb1 := hS.hr.bl hm1
  have hb2 := hS.hr.bl hm2
  refine wpIn_rangeFunc_ownH rfl (by omega) (gf := ch) (lb := #[.pointer (some ⟨b1, 0, none⟩), .pointer (some ⟨b2, 0, none⟩)]) (by rw [evalD]; exact hg) trivial hI.1
    (encs := fun _ : Unit => #[.slice a len len]) (Kp := fun A B => Boxes b1 b2 len n A → Boxes b1 b2 len n B) (S := fun ys => ys = if len = 0 then [] else [()]) (Sp := fun _ => True) (N := if len = 0 then 0 else 1) (w0 := w)
    (hI.2 b1 b2 a len cap n w hc1 hc2 hn1 hn2 hln hlc ha) (fun h k x => k (h x)) ?kb (Below.refl _ _) (fun _ => rfl)
    (fun pre W => (pre = [] ∧ St w0 m W H) ∨ (pre = [()] ∧ ∃ m' H', Le m m' ∧ St w0 m' W H' ∧ Gh m m' H H' ∧ (∀ o b N, m' o = some (b, N) → ∃ cs T, Blk W b cs T) ∧ K .nrm env H')) (fun _ _ _ => False) ?own (fun _ _ _ _ _ hs _ _ => hs) (.inl ⟨rfl, hS⟩)
    (fun x a' W => a' = actD [] ((renv.set p (.slice a len len)).set q (ev (renv.set p (.slice a len len)) (.tmp p)))) (fun _ _ _ _ _ _ hs _ _ => hs) ?assign ?body ?done ?stop
  case kb =>
    rintro W l o0 o' hl hl0 hc hw ⟨⟨a', cap', h1⟩, h2⟩
    have h3 : ∀ (b : Nat) (v : Value), b < w.heap.size → W.cell? ⟨b, 0, none⟩ = some v → (W.putObj l o').cell? ⟨b, 0, none⟩ = some v := fun b v hb h =>
      (World.cell?_of_block (World.putObj_heap_other (show b ≠ l by omega))).trans h
    exact ⟨⟨a', cap', h3 _ _ hb1 h1⟩, h3 _ _ hb2 h2⟩
  case own =>
    rintro pre W W' row hI' hgr hr
    have hr' : ∀ r, row = some r → w0.w.heap.size ≤ r ∧ ∃ o : Obj, W.heap[r]? = some o ∧ o.isCells = false := fun r hr0 => ⟨Nat.le_trans hS.hr.size (hr r hr0).1, (hr r hr0).2⟩
    rcases hI' with ⟨h1, h2⟩ | ⟨h1, m', H', h2, h3, h4, h5, h6⟩
    · refine .inl ⟨h1, h2.grown hgr hr' fun o b N hmb e => ?_⟩
      have := hS.hr.bl hmb
      have := (hr b e.symm).1
      omega
    · have hne : ∀ o b N, m' o = some (b, N) → some b ≠ row := by
        intro o b N hmb e
        obtain ⟨cs, T, hb⟩ := h5 o b N hmb
        obtain ⟨_, ob, ho, hc⟩ := hr b e.symm
        rw [show W.heap[b]? = _ from hb] at ho
        cases ho
        simp [Obj.isCells] at hc
      refine .inr ⟨h1, m', H', h2, h3.grown hgr hr' hne, h4, fun o b N hmb => ?_, h6⟩
      obtain ⟨cs, T, hb⟩ := h5 o b N hmb
      exact ⟨cs, T, (new_of_grown hgr).blk hb (hne o b N hmb)⟩
  case assign =>
    intro l pre x W Kc hIp hK
    have e1 : ({ tmps := ((#[p] : Array Tmp).zip #[Value.slice a len len]).foldl (fun t (p, v) => t.setIfInBounds p v) (actD [] renv).tmps, defers := [] } : Act) = actD [] (renv.set p (.slice a len len)) := by
      simp [actD]
    show Code.wpIn _ _ P _ _ ({ tmps := ((#[p] : Array Tmp).zip #[Value.slice a len len]).foldl (fun t (p, v) => t.setIfInBounds p v) (actD [] renv).tmps, defers := [] } : Act) W
    rw [e1]
    exact move_wpIn (wideF_round l) hops ho1 ho2 ho3 (hK _ _ (KeepsFrom.refl _ _) (fun h => h) hIp rfl)
  case body =>
    rintro l pre x a' W hl _ hIp rfl hlt
    have hlen : len ≠ 0 := fun h => by rw [if_pos h] at hlt; omega
    rw [if_neg hlen] at hlt
    rcases hIp with ⟨h1, hSt⟩ | ⟨h1, _⟩
    rotate_left
    · rw [h1] at hlt; simp at hlt
    subst h1
    obtain ⟨c, hc, h2⟩ := hk1 hlen
    obtain ⟨hp, h3⟩ := setE_iff h2
    obtain ⟨hq, h4⟩ := setE_iff h3
    have hep : ev (renv.set p (.slice a len len)) (.tmp p) = .slice a len len := by simp [ev, hE.len, hp]
    rw [hep]
    have hE2 := (hE.set he hp (show VR m (.c c) _ from hc)).set he hq (show VR m (.c c) _ from hc)
    refine wpIn_mono (codeD_sound hm (wideF_round l) he (hC ⟨W, own m⟩) body _ H _ _ W m hz hd h4 hSt.base hE2) fun x a w' hq0 => ?_
    obtain ⟨hx, env', ha', hq⟩ := liftD_env hq0
    subst ha'
    cases x with
    | normal =>
      obtain ⟨m', env3, H3, hle, hS3, hE3, hG3, hk⟩ := hq
      obtain ⟨hk, hst⟩ := stillK_iff (show stillK H3 o1 o2 len n (noSpK H3 (K .nrm env H3)) from hk)
      have hS4 := hSt.rebase hS3
      obtain ⟨hk, hns⟩ := noSpK_iff hk
      refine ⟨⟨hS3.new.size, fun k o hBk hko ho => hSt.others hS3 (fun ⟨ob, N, hmb⟩ => ?_) hko⟩, fun _ => hst hS4 (hle _ _ hm1) (hle _ _ hm2), .inr ⟨rfl, m', H3, hle, hS4, hG3, hns hS4, hk⟩⟩
      have := hS.hr.bl hmb
      omega
    | exit i => obtain ⟨_, _, _, _, _, _, _, hk⟩ := hq; exact hk.elim
    | ret => obtain ⟨_, _, _, _, _, _, _, hk⟩ := hq; exact hk.elim
    | goto i => exact hq.elim
    | panic c => exact absurd rfl (hx.1 c)
    | outgrown => exact absurd rfl hx.2
  case done =>
    rintro D xs W hD hxs hIx hK
    have hDD : OkD w0 [{ target := .collected D, args := #[] }] W := .inr ⟨D, rfl, Nat.le_trans hS.hr.size hD, hK⟩
    refine QR.mk (x := .normal) (ds := [{ target := .collected D, args := #[] }]) (env := renv) ⟨fun _ => by simp, by simp⟩ hDD ?_
    rcases hIx with ⟨h1, h2⟩ | ⟨h1, m', H', h2, h3, h4, _, h5⟩
    · have hl0 : len = 0 := by
        refine Classical.byContradiction fun hl => ?_
        rw [if_neg hl, h1] at hxs
        cases hxs
      exact ⟨m, env, H, Le.refl m, h2, hE, Gh.refl m H, hk0 hl0⟩
    · exact ⟨m', env, H', h2, h3, hE.mono h2, h4, h5⟩
  case stop =>
    rintro D c pre W _ _ h _
    exact h.elim

theorem keys_core {ke : FuncId} (hJ : KeysOk P ke) {g : Operand} {ps : Array Tmp} {asg body : Code} {env : Env e} {K : KE e} {renv : List Value} (hS : St w0 m w H) (hE : ER m e env renv)
    {o1 b1 N1 q : Nat} (hm1 : m o1 = some (b1, N1)) (hg : ev renv g = .func (.func ke) #[] #[.pointer (some ⟨b1, 0, none⟩)]) {b2 c : Nat} (hc1 : w.cell? ⟨b1, 0, none⟩ = some (.map (some b2))) (hc2 : w.heap[b2]? = some (.map #[] c)) (hk : K .nrm env H) :
    (Code.rangeFunc g ps asg body).wpIn Fence.wide 3 P (QR w0 m H K) (actD [] renv) w := by
  refine wpIn_rangeFunc_ownH rfl (by omega) (gf := ke) (lb := #[.pointer (some ⟨b1, 0, none⟩)]) (by rw [evalD]; exact hg) trivial hJ.1
    (encs := fun x : Empty => nomatch x) (Kp := fun _ _ => True) (S := fun _ => True) (Sp := fun _ => True) (N := 0) (w0 := w)
    (hJ.2 b1 b2 c w hc1 hc2) (fun _ _ => trivial) (fun _ _ _ _ _ _ _ _ => trivial) (Below.refl _ _) (fun x => nomatch x)
    (fun _ W => St w0 m W H) (fun _ _ _ => False) ?own (fun _ _ _ _ _ hs _ _ => hs) hS (fun _ _ _ => True) (fun _ _ _ _ _ _ _ _ _ => trivial) (fun _ _ x => nomatch x) (fun _ _ x => nomatch x) ?done ?stop
  case own =>
    rintro pre W W' row h2 hgr hr
    refine h2.grown hgr (fun r hr0 => ⟨Nat.le_trans hS.hr.size (hr r hr0).1, (hr r hr0).2⟩) fun o b N hmb e => ?_
    have := hS.hr.bl hmb
    have := (hr b e.symm).1
    omega
  case done =>
    rintro D xs W hD _ hSt hK
    exact QR.mk (x := .normal) (ds := [{ target := .collected D, args := #[] }]) (env := renv) ⟨fun _ => by simp, by simp⟩ (.inr ⟨D, rfl, Nat.le_trans hS.hr.size hD, hK⟩) ⟨m, env, H, Le.refl m, hSt, hE, Gh.refl m H, hk⟩
  case stop =>
    rintro D c pre W _ _ h _
    exact h.elim

theorem rf_sound (hm : P.follows .mixedOrders = true) {cs : Option FuncId} {ks : List FuncId} (hI : ∀ ch, cs = some ch → ChunkOk P ch) (hJ : ∀ ke, ke ∈ ks → KeysOk P ke) (he : e ≤ 16384) (hC : ∀ w0, CallOk P w0 call) {Z : Plans} {g : Operand} {ps : Array Tmp} {asg body : Code} {env : Env e} {K : KE e} {renv : List Value}
    (hz : okCode Z body = true) (hd : straight body = true) (h : (rfC cs ks P e Z g ps asg body).go call env H K) (hS : St w0 m w H) (hE : ER m e env renv) : (Code.rangeFunc g ps asg body).wpIn Fence.wide 3 P (QR w0 m H K) (actD [] renv) w := by
  unfold rfC at h
  rw [bind_go, bind_go, mk_go] at h
  obtain ⟨v, h1, hv⟩ := evC_sound h
  rcases iterK_iff h1 with ⟨ch, o1, o2, hch, rfl, h2⟩ | ⟨ke, o1, hke, rfl, h2⟩
  rotate_left
  · obtain ⟨cm, h3, r1⟩ := load1_cell h2
    obtain ⟨q, e1, h4⟩ := onM_iff h3
    cases e1
    obtain ⟨hq, hk⟩ := mapAt_iff h4
    obtain ⟨fs, xs, hev, hf, hx⟩ := (show CR m (.f (.func ke) [] [some (o1, 0)]) (ev renv g) from hv m renv fun t _ => hE.slot t)
    match fs, xs, hf, hx with
    | [], [x1], _, ⟨⟨b1, N1, hm1, e1⟩, _⟩ =>
    have e1 : x1 = .pointer (some ⟨b1, 0, none⟩) := e1
    subst e1
    obtain ⟨u1, hc1, k1⟩ := r1 hS hm1
    obtain ⟨b2, N2, hm2, k2⟩ := (show CR m (.mp q) u1 from k1)
    subst k2
    obtain ⟨c, hb⟩ : ∃ c, w.heap[b2]? = some (.map #[] c) := by
      rcases (hS.hr.blk _ _ _ hm2).2 with ⟨_, h⟩ | ⟨_, _, _, _, _, _, h, _⟩ | ⟨h, _⟩
      · exact h
      · rw [hq] at h; cases h
      · exact absurd hq h
    exact keys_core (q := q) (hJ ke hke) hS hE hm1 hev hc1 hb hk
  unfold chunkC at h2
  split at h2
  rotate_left
  · exact h2.elim
  rename_i p hps
  obtain rfl : ps = #[p] := by rw [← Array.toArray_toList (xs := ps), hps]
  split at h2
  rotate_left
  · exact h2.elim
  rename_i q hasg
  obtain ⟨id, ops, o, rfl, hops, ho1, ho2, ho3⟩ := asgOf_iff hasg
  rw [bind_go, bind_go, bind_go, mk_go] at h2
  obtain ⟨csv, h3, r1⟩ := load1_cell h2
  obtain ⟨cn, h4, r2⟩ := load1_cell h3
  obtain ⟨n, e1, h5⟩ := numK_iff h4
  cases e1
  obtain ⟨hn1, h6⟩ := iff_t h5
  obtain ⟨hn2, h7⟩ := iff_t h6
  have hn1 := ble_le hn1
  have hn2 := ble_le hn2
  obtain ⟨fs, xs, hev, hf, hx⟩ := (show CR m (.f (.func ch) [] [some (o1, 0), some (o2, 0)]) (ev renv g) from hv m renv fun t _ => hE.slot t)
  match fs, xs, hf, hx with
  | [], [x1, x2], _, ⟨⟨b1, N1, hm1, e1⟩, ⟨b2, N2, hm2, e2⟩, _⟩ =>
  have e1 : x1 = .pointer (some ⟨b1, 0, none⟩) := e1
  have e2 : x2 = .pointer (some ⟨b2, 0, none⟩) := e2
  subst e1 e2
  obtain ⟨u1, hc1, k1⟩ := r1 hS hm1
  obtain ⟨u2, hc2, k2⟩ := r2 hS hm2
  have k2 : u2 = .int .i64 (n : Int) := k2
  subst k2
  have core := fun {a len cap} hc1 => rf_core hm (hI ch hch) he hC (g := g) (id := id) (body := body) (K := K) hops ho1 ho2 ho3 hz hd hS hE hm1 hm2 hev (a := a) (len := len) (cap := cap) hc1 hc2 hn1 hn2
  rcases onS_iff h7 with ⟨e, h8⟩ | ⟨e, h8⟩ | ⟨so, off, len, sz, c, e, h8⟩
  · cases e
    have k1 : u1 = .slice none 0 0 := k1
    subst k1
    exact core hc1 (by omega) (by omega) (fun h => absurd rfl h) (fun _ => h8) (fun h => absurd rfl h)
  · cases e
    obtain ⟨a, cap, rfl⟩ := k1
    exact core hc1 (by omega) (by omega) (fun h => absurd rfl h) (fun _ => h8) (fun h => absurd rfl h)
  · cases e
    obtain ⟨b, N, cap, hmo, rfl, hlc, hcc⟩ := k1
    rcases iff_c h8 with ⟨hl, h9⟩ | ⟨hl, h9⟩
    · have hl := beq_eq hl
      subst hl
      exact core hc1 (by omega) hlc (fun h => absurd rfl h) (fun _ => h9) (fun h => absurd rfl h)
    · have hl := not_beq hl
      obtain ⟨hsz, h10⟩ := iff_t h9
      obtain ⟨hln, h11⟩ := iff_t h10
      have hln := ble_le hln
      exact core hc1 hln hlc (fun _ => ⟨_, _, rfl⟩) (fun h => absurd h hl) (fun _ => ⟨.s so off len 1 (some len), ⟨b, N, len, hmo, rfl, Nat.le_refl _, rfl⟩, h11⟩)

theorem okR_leaf {Z : Plans} : ∀ c, noR c = true → okR Z c = true → okCode Z c = true ∧ straight c = true
  | .seq a b, hn, hz => by
    have hn : (noR a && noR b) = true := hn
    have hz : (okR Z a && okR Z b) = true := hz
    simp only [Bool.and_eq_true] at hn hz
    obtain ⟨h1, h2⟩ := okR_leaf a hn.1 hz.1
    obtain ⟨h3, h4⟩ := okR_leaf b hn.2 hz.2
    refine ⟨?_, ?_⟩
    · show (okCode Z a && okCode Z b) = true
      rw [h1, h3]; rfl
    · show (straight a && straight b) = true
      rw [h2, h4]; rfl
  | .block _ c, hn, hz => okR_leaf c hn hz
  | .rangeFunc .., hn, _ => by cases hn
  | .skip, _, hz => by simpa [okR] using hz
  | .region .., _, hz => by simpa [okR] using hz
  | .cond .., _, hz => by simpa [okR] using hz
  | .loop _, _, hz => by simpa [okR] using hz
  | .exit _, _, hz => by simpa [okR] using hz
  | .ret, _, hz => by simpa [okR] using hz
  | .scope _, _, hz => by simpa [okR] using hz
  | .label _, _, hz => by simpa [okR] using hz
  | .goto _, _, hz => by simpa [okR] using hz
  | .refuse _, _, hz => by simpa [okR] using hz

theorem codeR_sound (hm : P.follows .mixedOrders = true) {cs : Option FuncId} {ks : List FuncId} (hI : ∀ ch, cs = some ch → ChunkOk P ch) (hJ : ∀ ke, ke ∈ ks → KeysOk P ke) (he : e ≤ 16384) (hC : ∀ w0, CallOk P w0 call) {Z : Plans} : ∀ (c : Code) (env : Env e) (H : Hp) (K : KE e) (renv : List Value) (w : World) (m : Mp),
    okR Z c = true → (codeR cs ks P e Z c).go call env H K → St w0 m w H → ER m e env renv → c.wpIn Fence.wide 3 P (QR w0 m H K) (actD [] renv) w
  | .seq a b, env, H, K, renv, w, m, hz, h, hS, hE => by
    have hz : (okR Z a && okR Z b) = true := hz
    simp only [Bool.and_eq_true] at hz
    have okL : ∀ c, noR c = true → okR Z c = true → okCode Z c = true ∧ straight c = true := okR_leaf
    unfold codeR at h
    split at h
    · rename_i hb
      rw [bind_go, bind_go, mk_go] at h
      refine wpIn_seq (wpIn_mono (codeR_sound hm hI hJ he hC a env H _ renv w m hz.1 h hS hE) fun x a' w' hq0 => ?_)
      obtain ⟨hx, ds, env', rfl, hD, hq⟩ := QR.env hq0
      cases x with
      | normal =>
        obtain ⟨m', env2, H', hm', hS', hE', hG, hk⟩ := hq
        refine wpIn_mono (leaf_sound hm he hC (okL b hb hz.2).1 (okL b hb hz.2).2 hk hS' hE' hD) fun x a w h => ?_
        obtain ⟨hx, ds, env3, rfl, hD, hq⟩ := QR.env h
        exact QR.mk hx hD (KQ.of hm' hG _ _ _ hq)
      | panic c => exact absurd rfl (hx.1 c)
      | outgrown => exact absurd rfl hx.2
      | exit i => exact QR.mk (x := .exit i) hx hD hq
      | goto i => exact hq.elim
      | ret => exact QR.mk (x := .ret) hx hD hq
    · rename_i hb
      split at h
      · rename_i hna
        have ha := okL a hna hz.1
        rw [bind_go, bind_go, mk_go] at h
        refine wpIn_seq (wpIn_mono (codeD_sound (ds := []) hm wideF_wide he (hC w0) a env H _ renv w m ha.1 ha.2 h hS hE) fun x a' w' hq0 => ?_)
        obtain ⟨hx, env', rfl, hq⟩ := liftD_env hq0
        cases x with
        | normal =>
          obtain ⟨m', env2, H', hm', hS', hE', hG, hk⟩ := hq
          refine wpIn_mono (codeR_sound hm hI hJ he hC b env2 H' K env' w' m' hz.2 hk hS' hE') fun x a w h => ?_
          obtain ⟨hx, ds, env3, rfl, hD, hq⟩ := QR.env h
          exact QR.mk hx hD (KQ.of hm' hG _ _ _ hq)
        | panic c => exact absurd rfl (hx.1 c)
        | outgrown => exact absurd rfl hx.2
        | exit i => exact QR.mk (x := .exit i) hx (.inl rfl) hq
        | goto i => exact hq.elim
        | ret => exact QR.mk (x := .ret) hx (.inl rfl) hq
      · exact h.elim
  | .block id c, env, H, K, renv, w, m, hz, h, hS, hE => by
    have h0 : ((codeR cs ks P e Z c).bind fun c => ⟨fun call env H K => c call env H (kBlock id K)⟩ : Bx (CoR e)).go call env H K := h
    rw [bind_go, mk_go] at h0
    have h1 := codeR_sound hm hI hJ he hC c env H _ renv w m hz h0 hS hE
    refine wpIn_block (wpIn_mono h1 fun x a' w' hq0 => ?_)
    obtain ⟨hx, ds, env', rfl, hD, hq⟩ := QR.env hq0
    cases x with
    | exit i =>
      simp only [Exit.inBlock]
      have hq' : Bh w0 m H (fun env H => @Bool.rec (fun _ => Prop) (K (.exit i) env H) (K .nrm env H) (Nat.beq i id)) env' w' := hq
      cases hb : Nat.beq i id with
      | true =>
        rw [hb] at hq'
        rw [if_pos (Nat.eq_of_beq_eq_true hb)]
        exact QR.mk (x := .normal) ⟨fun _ => by simp, by simp⟩ hD hq'
      | false =>
        rw [hb] at hq'
        rw [if_neg (Nat.ne_of_beq_eq_false hb)]
        exact QR.mk (x := .exit i) hx hD hq'
    | panic c => exact absurd rfl (hx.1 c)
    | outgrown => exact absurd rfl hx.2
    | normal => exact QR.mk (x := .normal) hx hD hq
    | goto i => exact hq.elim
    | ret => exact QR.mk (x := .ret) hx hD hq
  | .rangeFunc g ps asg body, env, H, K, renv, w, m, hz, h, hS, hE => by
    have hz : (okCode Z body && straight body) = true := hz
    simp only [Bool.and_eq_true] at hz
    exact rf_sound hm hI hJ he hC hz.1 hz.2 h hS hE
  | .skip, env, H, K, renv, w, m, hz, h, hS, hE => leaf_sound hm he hC (okR_leaf _ rfl hz).1 (okR_leaf _ rfl hz).2 h hS hE (.inl rfl)
  | .region .., env, H, K, renv, w, m, hz, h, hS, hE => leaf_sound hm he hC (okR_leaf _ rfl hz).1 (okR_leaf _ rfl hz).2 h hS hE (.inl rfl)
  | .cond .., env, H, K, renv, w, m, hz, h, hS, hE => leaf_sound hm he hC (okR_leaf _ rfl hz).1 (okR_leaf _ rfl hz).2 h hS hE (.inl rfl)
  | .loop _, env, H, K, renv, w, m, hz, h, hS, hE => leaf_sound hm he hC (okR_leaf _ rfl hz).1 (okR_leaf _ rfl hz).2 h hS hE (.inl rfl)
  | .exit _, env, H, K, renv, w, m, hz, h, hS, hE => leaf_sound hm he hC (okR_leaf _ rfl hz).1 (okR_leaf _ rfl hz).2 h hS hE (.inl rfl)
  | .ret, env, H, K, renv, w, m, hz, h, hS, hE => leaf_sound hm he hC (okR_leaf _ rfl hz).1 (okR_leaf _ rfl hz).2 h hS hE (.inl rfl)
  | .scope _, _, _, _, _, _, _, _, h, _, _ => h.elim
  | .label _, _, _, _, _, _, _, _, h, _, _ => h.elim
  | .goto _, _, _, _, _, _, _, _, h, _, _ => h.elim
  | .refuse _, _, _, _, _, _, _, _, h, _, _ => h.elim

theorem fnR_sound (hm : P.follows .mixedOrders = true) {cs : Option FuncId} {ks : List FuncId} (hI : ∀ ch, cs = some ch → ChunkOk P ch) (hJ : ∀ ke, ke ∈ ks → KeysOk P ke) (hC : ∀ w0, CallOk P w0 call) {Z : Plans} {f : FuncId} (hz : okFR P Z f = true) : SumOk P w0 f ((fnR cs ks P Z f).go call) := by
  intro args vals m w H K h hSt hargs
  unfold fnR at h
  unfold okFR at hz
  split at h
  rotate_left
  · exact h.elim
  rename_i fn hf
  split at h
  rotate_left
  · exact h.elim
  rename_i c hc
  rw [hf] at hz
  simp only [hc] at hz
  rw [fNB_eq] at h
  split at h
  · exact h.elim
  rename_i hle
  have he : fn.ntmps ≤ 16384 := ble_le hle
  rw [bind_go, bind_go, mk_go] at h
  obtain ⟨hlen, h1⟩ := iff_t h
  have hlen : args.length ≤ fn.ntmps := ble_le hlen
  have hll := hargs.length
  obtain ⟨t, h2, hE⟩ := envK_iff (m := m) (vals := vals) (pre := []) he h1 hargs (by simp; omega) (by simpa using ER.env0 m fn.ntmps)
  have hE : ER m fn.ntmps t (vals ++ List.replicate (fn.ntmps - vals.length) undef) := by simpa using hE
  refine callsIn_wide.1 (callsIn_of_wp_marks (F := Fence.wide) (n := 3) hf hc trivial ?_ rfl)
  have h3 := codeR_sound (w0 := w0) hm hI hJ he hC c t H _ _ w m hz h2 hSt hE
  have h4 : actD [] (vals ++ List.replicate (fn.ntmps - vals.length) undef) = { tmps := vals.toArray ++ Array.replicate (fn.ntmps - vals.toArray.size) undef, defers := [] } := by
    unfold actD
    congr 1
    simp
  rw [h4] at h3
  have fin : ∀ {renv : List Value} {ds : List Deferred} {w' : World}, OkD w0 ds w' → Bh w0 m H (fun env H => (resC P fn.ntmps fn.results.toList).go env H fun vs => retK vs H K) renv w' →
      LeavesInM Fence.wide 3 P fn renv.toArray (fun e w' => ∃ v, e = .returned v ∧ Af w0 m H K v w') ds .returning w' := by
    rintro renv ds w' hD ⟨m', env', H', hm', hS', hE', hG, hk⟩
    obtain ⟨vs, hk1, hr⟩ := resC_sound hk
    have res : ∀ {w2}, St w0 m' w2 H' → ∃ v, (results fn renv.toArray).run P w2 = .ok v w2 ∧ Af w0 m H K v w2 := by
      intro w2 hS2
      obtain ⟨rvs, hrun, hrel⟩ := hr m' w0 w2 renv hS2.hr hE'
      obtain ⟨v, hv, hk2⟩ := retK_iff hk1 hrel
      exact ⟨_, results_of hrun, m', v, H', hm', hv, hS2, hG, hk2⟩
    rcases hD with rfl | ⟨D, rfl, hle, hK⟩
    · obtain ⟨v, hv, hA⟩ := res hS'
      exact ⟨v, hv, v, rfl, hA⟩
    · obtain ⟨v, hv, hA⟩ := res (hS'.grown (grownBy_putObj' w' D (.deferred none)) (fun r e => by cases e; exact ⟨hle, _, hK, rfl⟩) fun o b N hmb e => by cases e; exact hS'.deferred hK hmb)
      exact ⟨by simp, .inl ⟨_, _, rfl, run_takeDeferred hK, v, hv, v, rfl, hA⟩⟩
  refine wpIn_mono h3 fun x a w' hq0 => ?_
  obtain ⟨hx, ds, env', rfl, hD, hq⟩ := QR.env hq0
  cases x with
  | normal => exact fin hD hq
  | ret => exact fin hD hq
  | panic c => exact absurd rfl (hx.1 c)
  | outgrown => exact absurd rfl hx.2
  | exit i => obtain ⟨_, _, _, _, _, _, _, hk⟩ := hq; exact hk.elim
  | goto i => exact hq.elim
end
end Go.Mx
