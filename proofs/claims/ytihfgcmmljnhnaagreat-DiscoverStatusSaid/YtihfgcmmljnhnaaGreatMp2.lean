/- How the values of the trees and those of the program's memory belong together; operations that look at no memory. -/
import Derived.Test.YtihfgcmmljnhnaaGreatMp1
set_option linter.unusedVariables false
namespace Go.Mx
open Go.Eng

/-- Where an object lies: its block, and how many cells that has. -/
abbrev Mp := Nat → Option (Nat × Nat)

def PR (m : Mp) : Ptr → Value → Prop
  | none, v => v = .pointer none
  | some p, v => ∃ b n, m p.1 = some (b, n) ∧ v = .pointer (some ⟨b, p.2, none⟩)

def All2 {α β : Type} (R : α → β → Prop) : List α → List β → Prop
  | [], [] => True
  | x :: xs, y :: ys => R x y ∧ All2 R xs ys
  | _, _ => False

def CR (m : Mp) : C → Value → Prop
  | .un, v => v = undef
  | .b x, v => v = .bool x
  | .i k n, v => v = .int (kd k) n
  | .np, v => v = .pointer none
  | .p o off, v => ∃ b n, m o = some (b, n) ∧ v = .pointer (some ⟨b, off, none⟩)
  | .ns, v => v = .slice none 0 0
  | .es, v => ∃ a cap, v = .slice (some a) 0 cap
  | .s o off len sz c, v => ∃ b n cap, m o = some (b, n) ∧ v = .slice (some ⟨b, off, none⟩) len cap ∧ len ≤ cap ∧ (match c with | some k => cap = k | none => off + cap * sz = n)
  | .f fn first cap, v => ∃ fs cs : List Value, v = .func fn fs.toArray cs.toArray ∧ All2 (PR m) first fs ∧ All2 (PR m) cap cs
  | .r x, v => v = x

/-- Cells of a tree that are those of a list. -/
def TR (m : Mp) (dp : Nat) (d : Lv C dp) (off : Nat) (cs : List Value) : Prop :=
  off + cs.length ≤ 4 ^ dp ∧ ∀ i u, cs[i]? = some u → CR m (lget dp d (off + i)) u ∧ stC (lget dp d (off + i)) = true

def VR0 (m : Mp) : V → Value → Prop
  | .c c, v => CR m c v
  | .a dp d off sz, v => ∃ cs : List Value, v = .agg cs.toArray ∧ cs.length = sz ∧ TR m dp d off cs
  | .t _, _ => False
def VR (m : Mp) : V → Value → Prop
  | .t vs, v => ∃ rs : List Value, v = .tuple rs.toArray ∧ All2 (VR0 m) vs rs
  | x, v => VR0 m x v

theorem VR0.vr {m : Mp} {x : V} {v : Value} (h : VR0 m x v) : VR m x v := by
  cases x with
  | t => exact h.elim
  | _ => exact h

def Le (m m' : Mp) : Prop := ∀ o p, m o = some p → m' o = some p
theorem Le.refl (m : Mp) : Le m m := fun _ _ h => h
theorem Le.trans {a b c : Mp} (h : Le a b) (k : Le b c) : Le a c := fun o p e => k o p (h o p e)

theorem All2.mono {α β : Type} {R R' : α → β → Prop} (h : ∀ x y, R x y → R' x y) : ∀ {xs : List α} {ys : List β}, All2 R xs ys → All2 R' xs ys
  | [], [], _ => trivial
  | _ :: _, _ :: _, ⟨a, b⟩ => ⟨h _ _ a, All2.mono h b⟩

theorem PR.mono {m m' : Mp} (hm : Le m m') {p : Ptr} {v : Value} (h : PR m p v) : PR m' p v := by
  cases p with
  | none => exact h
  | some p => obtain ⟨b, n, e, r⟩ := h; exact ⟨b, n, hm _ _ e, r⟩
theorem CR.mono {m m' : Mp} (hm : Le m m') {c : C} {v : Value} (h : CR m c v) : CR m' c v := by
  cases c with
  | p o off => obtain ⟨b, n, e, r⟩ := h; exact ⟨b, n, hm _ _ e, r⟩
  | s o off len sz c => obtain ⟨b, n, cap, e, r⟩ := h; exact ⟨b, n, cap, hm _ _ e, r⟩
  | f fn first cap => obtain ⟨fs, cs, e, h1, h2⟩ := h; exact ⟨fs, cs, e, h1.mono fun _ _ => PR.mono hm, h2.mono fun _ _ => PR.mono hm⟩
  | _ => exact h
theorem TR.mono {m m' : Mp} (hm : Le m m') {dp : Nat} {d : Lv C dp} {off : Nat} {cs : List Value} (h : TR m dp d off cs) : TR m' dp d off cs :=
  ⟨h.1, fun i u hu => ⟨(h.2 i u hu).1.mono hm, (h.2 i u hu).2⟩⟩
theorem VR0.mono {m m' : Mp} (hm : Le m m') {x : V} {v : Value} (h : VR0 m x v) : VR0 m' x v := by
  cases x with
  | c c => exact CR.mono hm h
  | a dp d off sz => obtain ⟨cs, e, l, t⟩ := h; exact ⟨cs, e, l, t.mono hm⟩
  | t => exact h.elim
theorem VR.mono {m m' : Mp} (hm : Le m m') {x : V} {v : Value} (h : VR m x v) : VR m' x v := by
  cases x with
  | t vs => obtain ⟨rs, e, t⟩ := h; exact ⟨rs, e, t.mono fun _ _ => VR0.mono hm⟩
  | c c => exact VR0.mono (x := .c c) hm h
  | a dp d o n => exact VR0.mono (x := .a dp d o n) hm h

theorem stC_single {m : Mp} {c : C} {v : Value} (h : CR m c v) (hs : stC c = true) : single v = true := by
  cases c with
  | un => cases hs
  | b x => cases h; rfl
  | i k n => cases h; rfl
  | np => cases h; rfl
  | p o off => obtain ⟨b, n, _, rfl⟩ := h; rfl
  | ns => cases h; rfl
  | es => obtain ⟨a, c, rfl⟩ := h; rfl
  | s o off len sz c => obtain ⟨b, n, cap, _, rfl, _⟩ := h; rfl
  | f fn first cap => obtain ⟨fs, cs, rfl, _⟩ := h; rfl
  | r x => cases h; exact hs

theorem kd_kc (k : IntKind) : kd (kc k) = k := by cases k <;> rfl

theorem cv1_rel (m : Mp) (v : Value) : CR m (cv1 v) v := by
  unfold cv1
  split
  · rfl
  · rename_i k n; show _ = Value.int (kd (kc k)) n; rw [kd_kc]
  · rfl
  · rfl
  · rfl

theorem nthD_map {l : List Value} {i : Nat} {u : Value} (h : l[i]? = some u) : nthD (l.map cv1) i = cv1 u := nthD_of (by rw [List.getElem?_map, h]; rfl)

theorem tr_rel (m : Mp) {l : List Value} (hs : l.all (fun v => stC (cv1 v)) = true) {dp : Nat} (hl : l.length ≤ 4 ^ dp) : TR m dp (tr dp (l.map cv1)) 0 l := by
  refine ⟨by omega, fun i u hu => ?_⟩
  have hi : i < l.length := by
    rcases Nat.lt_or_ge i l.length with h | h
    · exact h
    · rw [List.getElem?_eq_none h] at hu; cases hu
  rw [Nat.zero_add, lget_tr (by omega), nthD_map hu]
  exact ⟨cv1_rel m u, List.all_eq_true.1 hs u (List.mem_of_getElem? hu)⟩

theorem cv_rel (m : Mp) {v : Value} (h : okV v = true) : VR m (cv v).go v := by
  unfold cv
  split
  · rename_i cs
    rw [fNB_eq, mk_go]
    simp only [okV, Bool.and_eq_true] at h
    refine ⟨cs.toList, by simp, by simp, tr_rel m h.1 ?_⟩
    rw [Array.length_toList]
    exact dpN_le (ble_le h.2)
  · rw [mk_go]
    exact cv1_rel m _

/-! ### Operands -/

/-- The slot of a temporary belongs to the program's. -/
def SlR (m : Mp) (e : Nat) (env : Env e) (renv : List Value) (t : Nat) : Prop := t < e → VR m (lget (dpN e) env t) (renv.getD t undef)
def OpsR (m : Mp) (e : Nat) (env : Env e) (renv : List Value) (os : List Operand) : Prop := ∀ x ∈ os, ∀ t, x = .tmp t → SlR m e env renv t
def EvSem (e : Nat) (env : Env e) (x : Operand) (v : V) : Prop := ∀ m renv, (∀ t, x = .tmp t → SlR m e env renv t) → VR m v (ev renv x)

theorem EvSem.of {e : Nat} {env : Env e} {x : Operand} {v : V} (h : EvSem e env x v) {m : Mp} {renv : List Value} {os : List Operand} (ho : OpsR m e env renv os) (hx : x ∈ os) : VR m v (ev renv x) := h m renv fun t e => ho x hx t e

theorem evC_sound {e : Nat} {env : Env e} {x : Operand} {K : V → Prop} (h : (evC e x).go env K) : ∃ v, K v ∧ EvSem e env x v := by
  cases x with
  | tmp t =>
    have h1 : (getE e t).go env K := h
    unfold getE at h1
    split at h1
    · rename_i hlt
      rw [getC_eq] at h1
      exact ⟨_, h1, fun m renv hr => hr t rfl (ble_le hlt)⟩
    · exact h1.elim
  | const v =>
    have h1 : (match okV v with | true => (cv v).bind fun v => ⟨fun (_ : Env e) K => K v⟩ | false => ⟨fun _ _ => False⟩ : Bx (Env e → (V → Prop) → Prop)).go env K := h
    split at h1
    · rename_i hv
      rw [bind_go, mk_go] at h1
      exact ⟨_, h1, fun m renv _ => cv_rel m hv⟩
    · exact h1.elim
  | func f => exact ⟨_, h, fun m renv _ => ⟨[], [], rfl, trivial, trivial⟩⟩
  | global g => exact h.elim

theorem evsC_sound {e : Nat} {env : Env e} : ∀ {os : List Operand} {K : List V → Prop}, (evsC e os).go env K → ∃ vs, K vs ∧ All2 (EvSem e env) os vs
  | [], K, h => ⟨[], h, trivial⟩
  | o :: os, K, h => by
    have h' : ((evC e o).bind fun g => (evsC e os).bind fun h => ⟨fun env K => g env fun v => h env fun vs => K (v :: vs)⟩ : Bx (Env e → (List V → Prop) → Prop)).go env K := h
    rw [bind_go, bind_go, mk_go] at h'
    obtain ⟨v, h', hv⟩ := evC_sound h'
    obtain ⟨vs, h', hvs⟩ := evsC_sound h'
    exact ⟨v :: vs, h', hv, hvs⟩

theorem EvSem.all {e : Nat} {env : Env e} {m : Mp} {renv : List Value} {all : List Operand} (ho : OpsR m e env renv all) : ∀ {os : List Operand} {vs : List V}, All2 (EvSem e env) os vs → (∀ x ∈ os, x ∈ all) → All2 (VR m) vs (os.map (ev renv))
  | [], [], _, _ => trivial
  | o :: os, v :: vs, ⟨a, b⟩, hs => ⟨a.of ho (hs o (by simp)), EvSem.all ho b fun x hx => hs x (by simp [hx])⟩

/-! ### What pure operations yield -/

/-- Whatever the world, the operation yields a value that belongs to v. -/
def PuSem (P : Program) (e : Nat) (env : Env e) (o : Oper) (v : V) : Prop :=
  ∀ m renv, OpsR m e env renv o.op.operands.toList → ∃ rv, (∀ w, (execOp (ev renv) o).run P w = .ok (.value rv) w) ∧ VR m v rv

theorem pu_of {P : Program} {renv : List Value} {o : Oper} {s : Sem Value} {rv : Value} {m : Mp} {v : V} (he : execOp (ev renv) o = (do pure (.value (← s)))) (hr : ∀ w, s.run P w = .ok rv w) (h : VR m v rv) :
    ∃ rv, (∀ w, (execOp (ev renv) o).run P w = .ok (.value rv) w) ∧ VR m v rv := by
  refine ⟨rv, fun w => ?_, h⟩
  rw [he, Sem.run_bind, hr]
  rfl

section
variable {P : Program} {e : Nat} {env : Env e} {o : Oper} {K : V → Prop}

theorem move_sound {x : Operand} (ho : o.op = .move x) (h : (evC e x).go env K) : ∃ v, K v ∧ PuSem P e env o v := by
  obtain ⟨v, hk, hv⟩ := evC_sound h
  refine ⟨v, hk, fun m renv hr => ⟨ev renv x, fun w => ?_, hv.of hr (by rw [ho]; simp [Op.operands])⟩⟩
  unfold execOp; rw [ho]; rfl

theorem assign_sound {x : Operand} (ho : o.op = .assign x) (h : (evC e x).go env K) : ∃ v, K v ∧ PuSem P e env o v := by
  obtain ⟨v, hk, hv⟩ := evC_sound h
  refine ⟨v, hk, fun m renv hr => ⟨ev renv x, fun w => ?_, hv.of hr (by rw [ho]; simp [Op.operands])⟩⟩
  unfold execOp; rw [ho]; rfl

theorem pick_sound {c a b : Operand} (ho : o.op = .pick c a b) (h : (evC e c).go env fun c => onB c ((evC e a).go env K) ((evC e b).go env K)) : ∃ v, K v ∧ PuSem P e env o v := by
  obtain ⟨vc, h0, hc⟩ := evC_sound h
  obtain ⟨t, rfl, h1⟩ := onB_iff h0
  have hm : ∀ x, x = c ∨ x = a ∨ x = b → x ∈ o.op.operands.toList := by rw [ho]; simp [Op.operands]
  have run : ∀ renv, ev renv c = .bool t → ∀ w, (execOp (ev renv) o).run P w = .ok (.value (if t then ev renv a else ev renv b)) w := by
    intro renv hc w
    unfold execOp; rw [ho]; simp only [hc, asBool, pure_bind]; rfl
  rcases h1 with ⟨rfl, h2⟩ | ⟨rfl, h2⟩
  · obtain ⟨v, hk, hv⟩ := evC_sound h2
    exact ⟨v, hk, fun m renv hr => ⟨_, run renv (hc.of hr (hm c (.inl rfl))), hv.of hr (hm a (.inr (.inl rfl)))⟩⟩
  · obtain ⟨v, hk, hv⟩ := evC_sound h2
    exact ⟨v, hk, fun m renv hr => ⟨_, run renv (hc.of hr (hm c (.inl rfl))), hv.of hr (hm b (.inr (.inr rfl)))⟩⟩

theorem nil_sound {x : Operand} (ho : o.op = .nilCheck x) (h : (evC e x).go env fun x => nnK x K) : ∃ v, K v ∧ PuSem P e env o v := by
  obtain ⟨v, h0, hv⟩ := evC_sound h
  obtain ⟨ob, off, rfl, h1⟩ := pO_iff h0
  refine ⟨_, h1, fun m renv hr => ?_⟩
  have := hv.of hr (x := x) (by rw [ho]; simp [Op.operands])
  obtain ⟨b, n, hb, hx⟩ := this
  refine ⟨ev renv x, fun w => ?_, b, n, hb, hx⟩
  unfold execOp; rw [ho]; simp only [hx]; rfl

/-! #### Numbers -/

theorem wrap_mem {k : IntKind} {n : Int} (h0 : 0 ≤ n) (h1 : n ≤ (hiN (kc k) : Nat)) : k.wrap n = n := by
  cases k with
  | i8 => replace h1 : n ≤ ((127 : Nat) : Int) := h1; simp only [IntKind.wrap, IntKind.bits, IntKind.signed]; simp; omega
  | i16 => replace h1 : n ≤ ((127 : Nat) : Int) := h1; simp only [IntKind.wrap, IntKind.bits, IntKind.signed]; simp; omega
  | i32 => replace h1 : n ≤ ((127 : Nat) : Int) := h1; simp only [IntKind.wrap, IntKind.bits, IntKind.signed]; simp; omega
  | i64 => replace h1 : n ≤ ((9223372036854775807 : Nat) : Int) := h1; simp only [IntKind.wrap, IntKind.bits, IntKind.signed]; simp; omega
  | u8 => replace h1 : n ≤ ((255 : Nat) : Int) := h1; simp only [IntKind.wrap, IntKind.bits, IntKind.signed]; simp; omega
  | u16 => replace h1 : n ≤ ((127 : Nat) : Int) := h1; simp only [IntKind.wrap, IntKind.bits, IntKind.signed]; simp; omega
  | u32 => replace h1 : n ≤ ((127 : Nat) : Int) := h1; simp only [IntKind.wrap, IntKind.bits, IntKind.signed]; simp; omega
  | u64 => replace h1 : n ≤ ((18446744073709551615 : Nat) : Int) := h1; simp only [IntKind.wrap, IntKind.bits, IntKind.signed]; simp; omega

theorem hi_kd (k : Nat) : hiN k ≤ hiN (kc (kd k)) := by
  have : k = 0 ∨ k = 1 ∨ k = 2 ∨ k = 3 ∨ k = 4 ∨ k = 5 ∨ k = 6 ∨ k = 7 ∨ 8 ≤ k := by omega
  rcases this with rfl | rfl | rfl | rfl | rfl | rfl | rfl | rfl | h
  any_goals decide
  have h3 : Nat.beq k 3 = false := by cases hb : Nat.beq k 3 with | false => rfl | true => have := beq_eq hb; omega
  have h7 : Nat.beq k 7 = false := by cases hb : Nat.beq k 7 with | false => rfl | true => have := beq_eq hb; omega
  have h4 : Nat.beq k 4 = false := by cases hb : Nat.beq k 4 with | false => rfl | true => have := beq_eq hb; omega
  have hk : kd k = .u64 := by unfold kd; split <;> first | omega | rfl
  rw [hk]
  unfold hiN
  rw [h3, h7, h4]
  decide

theorem fin_iff {k : Nat} {n : Int} {K : V → Prop} (h : fin k n K) : K (.c (.i k n)) := fI_iff.1 h
theorem wrI_iff {k : Nat} {n : Int} {K : V → Prop} (h : wrI k n K) : K (.c (.i k ((kd k).wrap n))) := fin_iff h
theorem wrN_iff {k n : Nat} {K : V → Prop} (h : wrN k n K) : K (.c (.i k ((kd k).wrap (n : Int)))) := by
  rcases iff_c h with ⟨hb, h⟩ | ⟨_, h⟩
  · have h := fN_iff.1 h
    rw [wrap_mem (by omega) (by have := ble_le hb; have := hi_kd k; omega)]
    exact h
  · exact wrI_iff h

theorem nn_iff {a b : Int} {X : Nat → Nat → Prop} {F : Prop} (h : nn a b X F) : (∃ x y : Nat, a = x ∧ b = y ∧ X x y) ∨ F := by
  cases a with
  | ofNat x => cases b with
    | ofNat y => exact .inl ⟨x, y, rfl, rfl, h⟩
    | negSucc y => exact .inr h
  | negSucc x => exact .inr h

theorem addK_iff {k : Nat} {a b : Int} (h : addK k a b K) : K (.c (.i k ((kd k).wrap (a + b)))) := by
  rcases nn_iff h with ⟨x, y, rfl, rfl, h⟩ | h
  · have := wrN_iff h; rw [show ((Nat.add x y : Nat) : Int) = (x : Int) + y from Int.natCast_add x y] at this; exact this
  · exact wrI_iff h
theorem mulK_iff {k : Nat} {a b : Int} (h : mulK k a b K) : K (.c (.i k ((kd k).wrap (a * b)))) := by
  rcases nn_iff h with ⟨x, y, rfl, rfl, h⟩ | h
  · have := wrN_iff h; rw [show ((Nat.mul x y : Nat) : Int) = (x : Int) * y from Int.natCast_mul x y] at this; exact this
  · exact wrI_iff h
theorem subK_iff {k : Nat} {a b : Int} (h : subK k a b K) : K (.c (.i k ((kd k).wrap (a - b)))) := by
  rcases nn_iff h with ⟨x, y, rfl, rfl, h⟩ | h
  · rcases iff_c h with ⟨hb, h⟩ | ⟨_, h⟩
    · have := wrN_iff h; have hle := ble_le hb
      rw [show ((Nat.sub x y : Nat) : Int) = (x : Int) - y by have := Int.ofNat_sub hle; exact this] at this; exact this
    · exact wrI_iff h
  · exact wrI_iff h

theorem bits_nat (f : Nat → Nat → Nat) (hf : ∀ w x y, f x y % 2 ^ w = f (x % 2 ^ w) (y % 2 ^ w) % 2 ^ w) (k : IntKind) (x y : Nat) : k.wrap (f (BitVec.ofInt k.bits (x : Int)).toNat (BitVec.ofInt k.bits (y : Int)).toNat : Nat) = k.wrap ((f x y : Nat) : Int) := by
  have e : ∀ z : Nat, (BitVec.ofInt k.bits (z : Int)).toNat = z % 2 ^ k.bits := fun z => by
    rw [show (BitVec.ofInt k.bits (z : Int)) = BitVec.ofNat k.bits z from BitVec.ofInt_natCast ..]; simp
  rw [e, e]
  have key := hf k.bits x y
  generalize f (x % 2 ^ k.bits) (y % 2 ^ k.bits) = p at *
  generalize f x y = q at *
  unfold IntKind.wrap
  have : ((p : Int) % (2 ^ k.bits : Nat)) = ((q : Int) % (2 ^ k.bits : Nat)) := by
    rw [← Int.natCast_emod, ← Int.natCast_emod, ← key]
  cases k <;> simp only [IntKind.bits, IntKind.signed] at this ⊢ <;> simp at this ⊢ <;> omega

theorem land_mod (w x y : Nat) : Nat.land x y % 2 ^ w = Nat.land (x % 2 ^ w) (y % 2 ^ w) % 2 ^ w := by
  show (x &&& y) % 2 ^ w = ((x % 2 ^ w) &&& (y % 2 ^ w)) % 2 ^ w
  rw [Nat.and_mod_two_pow, Nat.and_mod_two_pow]; simp
theorem lor_mod (w x y : Nat) : Nat.lor x y % 2 ^ w = Nat.lor (x % 2 ^ w) (y % 2 ^ w) % 2 ^ w := by
  show (x ||| y) % 2 ^ w = ((x % 2 ^ w) ||| (y % 2 ^ w)) % 2 ^ w
  rw [Nat.or_mod_two_pow, Nat.or_mod_two_pow]; simp
theorem xor_mod (w x y : Nat) : Nat.xor x y % 2 ^ w = Nat.xor (x % 2 ^ w) (y % 2 ^ w) % 2 ^ w := by
  show (x ^^^ y) % 2 ^ w = ((x % 2 ^ w) ^^^ (y % 2 ^ w)) % 2 ^ w
  rw [Nat.xor_mod_two_pow, Nat.xor_mod_two_pow]; simp

theorem bitK_iff {f : Nat → Nat → Nat} (hf : ∀ w x y, f x y % 2 ^ w = f (x % 2 ^ w) (y % 2 ^ w) % 2 ^ w) {k : Nat} {a b : Int} (h : bitK f k a b K) : K (.c (.i k ((kd k).wrap (f (BitVec.ofInt (kd k).bits a).toNat (BitVec.ofInt (kd k).bits b).toNat : Nat)))) := by
  rcases nn_iff h with ⟨x, y, rfl, rfl, h1⟩ | h1
  · rw [bits_nat f hf]; exact wrN_iff h1
  · exact wrI_iff h1

theorem eqI_eq (a b : Int) : eqI a b = (a == b) := by
  cases a with
  | ofNat x => cases b with
    | ofNat y => show Nat.beq x y = _; rw [Bool.eq_iff_iff]; simp [Nat.beq_eq]; omega
    | negSucc y => rfl
  | negSucc x => cases b with
    | ofNat y => rfl
    | negSucc y => show Nat.beq x y = _; rw [Bool.eq_iff_iff]; simp [Nat.beq_eq]
theorem leI_eq (a b : Int) : leI a b = decide (a ≤ b) := by
  cases a with
  | ofNat x => cases b with
    | ofNat y => show Nat.ble x y = _; rw [Bool.eq_iff_iff]; simp
    | negSucc y => show false = _; rw [Bool.eq_iff_iff]; simp; omega
  | negSucc x => cases b with
    | ofNat y => show true = _; rw [Bool.eq_iff_iff]; simp; omega
    | negSucc y => show Nat.ble y x = _; rw [Bool.eq_iff_iff]; simp; omega
theorem ndec (a b : Int) : (!decide (a ≤ b)) = decide (b < a) := by rw [Bool.eq_iff_iff]; simp
theorem retB_iff {b : Bool} (h : retB b K) : K (.c (.b b)) := by cases b <;> exact h
theorem retN_iff {b : Bool} (h : retN b K) : K (.c (.b (!b))) := by cases b <;> exact h

theorem bin_mk {op : BinOp} {t u : TypeId} {x y : Operand} (ho : o.op = .binOp op t x y u) {vx vy v : V} (hx : EvSem e env x vx) (hy : EvSem e env y vy)
    (H : ∀ m rx ry, VR m vx rx → VR m vy ry → ∃ rv, (∀ w, (eqGuard op t x y rx ry).run P w = .ok () w) ∧ (∀ w, (binOp op t rx ry).run P w = .ok rv w) ∧ VR m v rv) : PuSem P e env o v := by
  intro m renv hr
  obtain ⟨rv, h1, h2, h3⟩ := H m _ _ (hx.of hr (by rw [ho]; simp [Op.operands])) (hy.of hr (by rw [ho]; simp [Op.operands]))
  exact bin_does ho h1 h2 h3

/-- Two numbers in, a value out. -/
theorem bin_ii {op : BinOp} {t u : TypeId} {x y : Operand} (ho : o.op = .binOp op t x y u) {k : Nat} {a b : Int} {v : V} {rv : Value} (hx : EvSem e env x (.c (.i k a))) (hy : EvSem e env y (.c (.i k b)))
    (hr : ∀ w, (binOp op t (.int (kd k) a) (.int (kd k) b)).run P w = .ok rv w) (hv : ∀ m, VR m v rv) : PuSem P e env o v :=
  bin_mk ho hx hy fun m rx ry h1 h2 => by
    have h1 : rx = .int (kd k) a := h1
    have h2 : ry = .int (kd k) b := h2
    subst h1 h2
    exact ⟨rv, fun w => guard_int, hr, hv m⟩

/-- What == and != yield, if the model's equality yields r. -/
def EqRuns (P : Program) (t : TypeId) (rx ry : Value) (r : Bool) (w : World) : Prop :=
  (∀ op x y, (eqGuard op t x y rx ry).run P w = .ok () w) ∧ (binOp .eql t rx ry).run P w = .ok (.bool r) w ∧ (binOp .neq t rx ry).run P w = .ok (.bool (!r)) w

theorem eqRuns_mk {t : TypeId} {rx ry : Value} {r : Bool} {w : World} (hg : ∀ op x y, (eqGuard op t x y rx ry).run P w = .ok () w) (hb : binOp .eql t rx ry = (do pure (.bool (← Op.equal t rx ry))))
    (hn : binOp .neq t rx ry = (do pure (.bool (!(← Op.equal t rx ry))))) (he : ∀ d : Nat, (Op.equalIn (d + 1) t rx ry).run P w = .ok r w) : EqRuns P t rx ry r w := by
  have he : (Op.equal t rx ry).run P w = .ok r w := he 9999
  refine ⟨hg, ?_, ?_⟩
  · rw [hb, Sem.run_bind, he]; rfl
  · rw [hn, Sem.run_bind, he]; rfl

def eqc1 : C → C → Bool
  | .i _ a, .i _ b => a == b
  | .b a, .b b => a == b
  | _, _ => true
def eqcL : List C → List C → Bool
  | x :: xs, y :: ys => eqc1 x y && eqcL xs ys
  | _, _ => true

theorem eqC1_iff {k : Bool} {x y : C} {X : Bool → Prop} (h : eqC1 k x y X) : X (eqc1 x y) ∧ ∀ (m : Mp) (u v : Value), CR m x u → CR m y v → cmp1 k u v ∧ eqv1 u v = eqc1 x y := by
  unfold eqC1 at h
  split at h
  · rename_i a n b m'
    obtain ⟨hb, h1⟩ := iff_t h
    have hb := beq_eq hb
    subst hb
    rw [eqI_eq] at h1
    refine ⟨h1, fun m u v hx hy => ?_⟩
    have hx : u = .int (kd a) n := hx
    have hy : v = .int (kd a) m' := hy
    subst hx hy
    exact ⟨rfl, rfl⟩
  · rename_i a b
    refine ⟨by cases a <;> cases b <;> exact h, fun m u v hx hy => ?_⟩
    have hx : u = .bool a := hx
    have hy : v = .bool b := hy
    subst hx hy
    exact ⟨trivial, rfl⟩
  · exact h.elim

theorem eqLs_iff : ∀ {ks : List Bool} {xs ys : List C} {X : Bool → Prop}, eqLs ks xs ys X → X (eqcL xs ys) ∧ ∀ (m : Mp) (us vs : List Value), All2 (CR m) xs us → All2 (CR m) ys vs → cmpOk ks us vs ∧ eqvL us vs = eqcL xs ys
  | [], [], [], X, h => ⟨h, fun m us vs a b => by match us, vs, a, b with | [], [], _, _ => exact ⟨trivial, rfl⟩⟩
  | k :: ks, x :: xs, y :: ys, X, h => by
    have h0 : eqC1 k x y fun r => eqLs ks xs ys fun s => X (@Bool.rec (fun _ => Bool) false s r) := h
    obtain ⟨h1, c1⟩ := eqC1_iff h0
    obtain ⟨h2, c2⟩ := eqLs_iff h1
    refine ⟨?_, fun m us vs a b => ?_⟩
    · show X (eqc1 x y && eqcL xs ys)
      cases he : eqc1 x y <;> rw [he] at h2 <;> exact h2
    · match us, vs, a, b with
      | u :: us, v :: vs, ⟨a1, a2⟩, ⟨b1, b2⟩ =>
        obtain ⟨d1, d2⟩ := c1 m u v a1 b1
        obtain ⟨d3, d4⟩ := c2 m us vs a2 b2
        exact ⟨⟨d1, d3⟩, by show (eqv1 u v && eqvL us vs) = (eqc1 x y && eqcL xs ys); rw [d2, d4]⟩
  | [], _ :: _, _, _, h => by simp [eqLs] at h
  | [], [], _ :: _, _, h => by simp [eqLs] at h
  | _ :: _, [], _, _, h => by simp [eqLs] at h
  | _ :: _, _ :: _, [], _, h => by simp [eqLs] at h

theorem all2_cells {m : Mp} {dp : Nat} {d : Lv C dp} : ∀ {cs : List Value} {n off : Nat}, cs.length = n → (∀ i u, cs[i]? = some u → CR m (lget dp d (off + i)) u) → All2 (CR m) (lcells dp d n off) cs
  | [], n, off, hl, _ => by subst hl; exact trivial
  | c :: cs, n, off, hl, h => by
    subst hl
    refine ⟨h 0 c rfl, all2_cells rfl fun i u hi => ?_⟩
    have := h (i + 1) u hi
    rw [show off + (i + 1) = Nat.succ off + i by omega] at this
    exact this

theorem eqB_sound {t : TypeId} {vx vy : V} {X : Bool → Prop} (h : (eqB P t).go vx vy X) : ∃ r, X r ∧ ∀ m rx ry, VR m vx rx → VR m vy ry → ∀ w, EqRuns P t rx ry r w := by
  unfold eqB at h
  split at h
  · obtain ⟨k, a, b, rfl, rfl, h1⟩ := ii_iff h
    refine ⟨_, h1, fun m rx ry q1 q2 w => ?_⟩
    have q1 : rx = .int (kd k) a := q1
    have q2 : ry = .int (kd k) b := q2
    subst q1 q2
    exact ⟨fun op x y => guard_int, by simp [binOp, Op.intCmp, eqI_eq], by simp [binOp, Op.intCmp, eqI_eq, bne]⟩
  · rename_i ht
    obtain ⟨cx, rfl, h1⟩ := onC_iff h
    obtain ⟨cy, rfl, h2⟩ := onC_iff h1
    have hu : P.underlying t = some .bool := by
      unfold eqT at ht; split at ht <;> first | assumption | (exact absurd ht (by decide))
    unfold eqBo at h2
    split at h2
    · rename_i a b
      refine ⟨_, h2, fun m rx ry q1 q2 w => ?_⟩
      have q1 : rx = .bool a := q1
      have q2 : ry = .bool b := q2
      subst q1 q2
      refine eqRuns_mk (fun op x y => by cases op <;> rfl) rfl rfl fun d => ?_
      cases a <;> cases b <;> simp [Op.equalIn, run_underlying hu]
    · exact h2.elim
  · rename_i ht
    obtain ⟨cx, rfl, h1⟩ := onC_iff h
    obtain ⟨cy, rfl, h2⟩ := onC_iff h1
    obtain ⟨el, hu⟩ : ∃ el, P.underlying t = some (.pointer el) := by
      unfold eqT at ht; split at ht <;> first | exact ⟨_, by assumption⟩ | (exact absurd ht (by decide))
    unfold eqPt at h2
    split at h2
    · skip
      refine ⟨_, h2, fun m rx ry q1 q2 w => ?_⟩
      have q1 : rx = .pointer none := q1
      have q2 : ry = .pointer none := q2
      subst q1 q2
      exact eqRuns_mk (fun op x y => by cases op <;> rfl) rfl rfl fun d => by simp [Op.equalIn, run_underlying hu]
    · skip
      refine ⟨_, h2, fun m rx ry q1 q2 w => ?_⟩
      have q1 : rx = .pointer none := q1
      obtain ⟨b, n, _, rfl⟩ := q2
      subst q1
      exact eqRuns_mk (fun op x y => by cases op <;> rfl) rfl rfl fun d => by simp [Op.equalIn, run_underlying hu]
    · skip
      refine ⟨_, h2, fun m rx ry q1 q2 w => ?_⟩
      have q2 : ry = .pointer none := q2
      obtain ⟨b, n, _, rfl⟩ := q1
      subst q2
      exact eqRuns_mk (fun op x y => by cases op <;> rfl) rfl rfl fun d => by simp [Op.equalIn, run_underlying hu]
    · exact h2.elim
  · rename_i ht
    obtain ⟨cx, rfl, h1⟩ := onC_iff h
    obtain ⟨cy, rfl, h2⟩ := onC_iff h1
    obtain ⟨el, hu⟩ : ∃ el, P.underlying t = some (.slice el) := by
      unfold eqT at ht; split at ht <;> first | exact ⟨_, by assumption⟩ | (exact absurd ht (by decide))
    unfold eqSl at h2
    split at h2
    · skip
      refine ⟨_, h2, fun m rx ry q1 q2 w => ?_⟩
      have q1 : rx = .slice none 0 0 := q1
      have q2 : ry = .slice none 0 0 := q2
      subst q1 q2
      exact eqRuns_mk (fun op x y => by cases op <;> rfl) rfl rfl fun d => by simp [Op.equalIn, run_underlying hu]
    · skip
      refine ⟨_, h2, fun m rx ry q1 q2 w => ?_⟩
      have q2 : ry = .slice none 0 0 := q2
      obtain ⟨b, n, cap, _, rfl, _⟩ := q1
      subst q2
      exact eqRuns_mk (fun op x y => by cases op <;> rfl) rfl rfl fun d => by simp [Op.equalIn, run_underlying hu]
    · skip
      refine ⟨_, h2, fun m rx ry q1 q2 w => ?_⟩
      have q2 : ry = .slice none 0 0 := q2
      obtain ⟨a, cap, rfl⟩ := q1
      subst q2
      exact eqRuns_mk (fun op x y => by cases op <;> rfl) rfl rfl fun d => by simp [Op.equalIn, run_underlying hu]
    · exact h2.elim
  · rename_i ht
    unfold eqA at h
    split at h
    · rename_i ks hk hg
      obtain ⟨dp, d, o, n, rfl, h1⟩ := onA_iff h
      obtain ⟨dp', d', o', n', rfl, h2⟩ := onA_iff h1
      rw [cellsK_iff, cellsK_iff] at h2
      have ha : isAgg? P t = true := by
        unfold eqT at ht
        unfold isAgg?
        split at ht <;> first | (exact absurd ht (by decide)) | skip
        · rename_i hu; rw [hu]
        · rename_i hu; rw [hu]
      obtain ⟨hX, hr⟩ := eqLs_iff h2
      refine ⟨_, hX, fun m rx ry q1 q2 w => ?_⟩
      obtain ⟨cs, rfl, l1, t1⟩ := q1
      obtain ⟨cs', rfl, l2, t2⟩ := q2
      obtain ⟨hc, he⟩ := hr m cs cs' (all2_cells l1 fun i u hi => (t1.2 i u hi).1) (all2_cells l2 fun i u hi => (t2.2 i u hi).1)
      have hq := eq_flat 8 t ks hk 10000 (by omega) cs cs' hc w
      unfold wrapV at hq
      rw [if_pos ha, if_pos ha, he] at hq
      exact ⟨fun op x y => run_eqGuard_agg w op t x y _ _ hg, by rw [run_eql_struct, hq]; rfl, by rw [run_neq_struct, hq]; rfl⟩
    · exact h.elim
  · exact h.elim

theorem bits_k (k : Nat) : bitsN k = (kd k).bits := by
  unfold bitsN
  cases h3 : Nat.beq k 3 with
  | true => rw [beq_eq h3]; rfl
  | false => cases h7 : Nat.beq k 7 with
    | true => rw [beq_eq h7]; rfl
    | false => rfl
theorem minN_eq (a b : Nat) : minN a b = min a b := by
  unfold minN
  cases h : Nat.ble a b with
  | true => have := ble_le h; show a = _; omega
  | false => have := not_ble h; show b = _; omega

theorem binOp_sound {op : BinOp} {t u : TypeId} {x y : Operand} (ho : o.op = .binOp op t x y u) (h : (evC e x).go env fun x => (evC e y).go env fun y => (binC P op t).go x y K) : ∃ v, K v ∧ PuSem P e env o v := by
  obtain ⟨vx, h1, hx⟩ := evC_sound h
  obtain ⟨vy, h2, hy⟩ := evC_sound h1
  have cmp : ∀ {r : Int → Int → Bool}, ∀ (a b : Int) (k : Nat), vx = .c (.i k a) → vy = .c (.i k b) → (∀ w, (binOp op t (.int (kd k) a) (.int (kd k) b)).run P w = .ok (.bool (r a b)) w) → K (.c (.b (r a b))) → ∃ v, K v ∧ PuSem P e env o v := by
    intro r a b k e1 e2 hr hk
    subst e1 e2
    exact ⟨_, hk, bin_ii ho hx hy hr fun m => rfl⟩
  have num : ∀ (a b z : Int) (k : Nat), vx = .c (.i k a) → vy = .c (.i k b) → (∀ w, (binOp op t (.int (kd k) a) (.int (kd k) b)).run P w = .ok (.int (kd k) z) w) → K (.c (.i k z)) → ∃ v, K v ∧ PuSem P e env o v := by
    intro a b z k e1 e2 hr hk
    subst e1 e2
    exact ⟨_, hk, bin_ii ho hx hy hr fun m => rfl⟩
  cases op with
  | add => obtain ⟨k, a, b, e1, e2, h3⟩ := ii_iff h2; exact num a b _ k e1 e2 (fun w => by simp [binOp, Op.intArith]) (addK_iff h3)
  | sub => obtain ⟨k, a, b, e1, e2, h3⟩ := ii_iff h2; exact num a b _ k e1 e2 (fun w => by simp [binOp, Op.intArith]) (subK_iff h3)
  | mul => obtain ⟨k, a, b, e1, e2, h3⟩ := ii_iff h2; exact num a b _ k e1 e2 (fun w => by simp [binOp, Op.intArith]) (mulK_iff h3)
  | quo =>
    obtain ⟨k, a, b, e1, e2, h3⟩ := ii_iff h2
    have key : b ≠ 0 ∧ K (.c (.i k ((kd k).wrap (a.tdiv b)))) := by
      rcases nn_iff h3 with ⟨x, y, rfl, rfl, h4⟩ | h4
      · obtain ⟨hb, h5⟩ := iff_f h4
        have := not_beq hb
        refine ⟨by omega, ?_⟩
        have h6 := wrN_iff h5
        rw [show ((Nat.div x y : Nat) : Int) = (x : Int).tdiv y from Int.ofNat_tdiv ..] at h6
        exact h6
      · obtain ⟨hb, h5⟩ := iff_f h4
        rw [eqI_eq] at hb
        exact ⟨by simpa using hb, wrI_iff h5⟩
    exact num a b _ k e1 e2 (fun w => by simp [binOp, Op.intDiv, key.1]) key.2
  | rem =>
    obtain ⟨k, a, b, e1, e2, h3⟩ := ii_iff h2
    have key : b ≠ 0 ∧ K (.c (.i k (a.tmod b))) := by
      rcases nn_iff h3 with ⟨x, y, rfl, rfl, h4⟩ | h4
      · obtain ⟨hb, h5⟩ := iff_f h4
        have := not_beq hb
        refine ⟨by omega, ?_⟩
        have h6 := fN_iff.1 h5
        rw [show (Int.ofNat (Nat.mod x y) : Int) = (x : Int).tmod y from Int.ofNat_tmod ..] at h6
        exact h6
      · obtain ⟨hb, h5⟩ := iff_f h4
        rw [eqI_eq] at hb
        exact ⟨by simpa using hb, fin_iff h5⟩
    exact num a b _ k e1 e2 (fun w => by simp [binOp, Op.intDiv, key.1]) key.2
  | and => obtain ⟨k, a, b, e1, e2, h3⟩ := ii_iff h2; exact num a b _ k e1 e2 (fun w => by simp [binOp, Op.intBits]) (bitK_iff land_mod h3)
  | or => obtain ⟨k, a, b, e1, e2, h3⟩ := ii_iff h2; exact num a b _ k e1 e2 (fun w => by simp [binOp, Op.intBits]) (bitK_iff lor_mod h3)
  | xor => obtain ⟨k, a, b, e1, e2, h3⟩ := ii_iff h2; exact num a b _ k e1 e2 (fun w => by simp [binOp, Op.intBits]) (bitK_iff xor_mod h3)
  | andNot => obtain ⟨k, a, b, e1, e2, h3⟩ := ii_iff h2; exact num a b _ k e1 e2 (fun w => by simp [binOp, Op.intBits]) (wrI_iff h3)
  | lss => obtain ⟨k, a, b, e1, e2, h3⟩ := ii_iff h2; exact cmp (r := fun a b => !(leI b a)) a b k e1 e2 (fun w => by simp [binOp, Op.intCmp, leI_eq, ndec]) (retN_iff h3)
  | leq => obtain ⟨k, a, b, e1, e2, h3⟩ := ii_iff h2; exact cmp (r := fun a b => leI a b) a b k e1 e2 (fun w => by simp [binOp, Op.intCmp, leI_eq]) (retB_iff h3)
  | gtr => obtain ⟨k, a, b, e1, e2, h3⟩ := ii_iff h2; exact cmp (r := fun a b => !(leI a b)) a b k e1 e2 (fun w => by simp [binOp, Op.intCmp, leI_eq, ndec]) (retN_iff h3)
  | geq => obtain ⟨k, a, b, e1, e2, h3⟩ := ii_iff h2; exact cmp (r := fun a b => leI b a) a b k e1 e2 (fun w => by simp [binOp, Op.intCmp, leI_eq]) (retB_iff h3)
  | shl =>
    obtain ⟨k, j, a, b, e1, e2, h3⟩ := iiS_iff h2
    rcases nn_iff h3 with ⟨x, y, rfl, rfl, h4⟩ | h4
    · subst e1 e2
      have h5 := wrN_iff h4
      refine ⟨_, h5, bin_mk ho hx hy fun m rx ry q1 q2 => ?_⟩
      have q1 : rx = .int (kd k) x := q1
      have q2 : ry = .int (kd j) y := q2
      subst q1 q2
      refine ⟨_, fun w => guard_int, fun w => ?_, rfl⟩
      have e0 : ¬ ((y : Int) < 0) := by omega
      simp [binOp, Op.shift, e0, minN_eq, bits_k]
    · exact h4.elim
  | shr =>
    obtain ⟨k, j, a, b, e1, e2, h3⟩ := iiS_iff h2
    rcases nn_iff h3 with ⟨x, y, rfl, rfl, h4⟩ | h4
    · subst e1 e2
      have h5 := fN_iff.1 h4
      refine ⟨_, h5, bin_mk ho hx hy fun m rx ry q1 q2 => ?_⟩
      have q1 : rx = .int (kd k) x := q1
      have q2 : ry = .int (kd j) y := q2
      subst q1 q2
      refine ⟨_, fun w => guard_int, fun w => ?_, rfl⟩
      have e0 : ¬ ((y : Int) < 0) := by omega
      simp [binOp, Op.shift, e0, minN_eq, bits_k]
      rw [show ((2 : Int) ^ min y (kd k).bits) = ((2 ^ min y (kd k).bits : Nat) : Int) by simp]
      exact (Int.ofNat_fdiv x _).symm
    · exact h4.elim
  | eql =>
    have h3 : ((eqB P t).bind fun g => ⟨fun x y K => g x y fun r => retB r K⟩ : Bx (V → V → (V → Prop) → Prop)).go vx vy K := h2
    rw [bind_go, mk_go] at h3
    obtain ⟨r, h4, h5⟩ := eqB_sound h3
    exact ⟨_, retB_iff h4, bin_mk ho hx hy fun m rx ry q1 q2 => ⟨.bool r, fun w => (h5 m rx ry q1 q2 w).1 _ _ _, fun w => (h5 m rx ry q1 q2 w).2.1, rfl⟩⟩
  | neq =>
    have h3 : ((eqB P t).bind fun g => ⟨fun x y K => g x y fun r => retN r K⟩ : Bx (V → V → (V → Prop) → Prop)).go vx vy K := h2
    rw [bind_go, mk_go] at h3
    obtain ⟨r, h4, h5⟩ := eqB_sound h3
    exact ⟨_, retN_iff h4, bin_mk ho hx hy fun m rx ry q1 q2 => ⟨.bool (!r), fun w => (h5 m rx ry q1 q2 w).1 _ _ _, fun w => (h5 m rx ry q1 q2 w).2.2, rfl⟩⟩
end
end Go.Mx
