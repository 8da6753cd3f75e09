/- DiscoverMajority: the law. -/
import Derived.Test.YtmphhkikakblcaaGreatDM2
import Derived.Test.YtmphhkikakblcaaGreatPick
import Derived.Test.YtmphhkikakblcaaGreatCodeDM
set_option linter.unusedVariables false
namespace Go.Mx
open Go.Eng Go.Proofs Go.Proofs.YtmphhkikakblcaaGreat

attribute [local irreducible] cD

theorem fN_eq (n : Nat) (K : Nat → Prop) : fN n K = K n := by cases n <;> rfl

/-- Of the masks: a node fails; it comes back. -/
def bitE (x i : Int) : Bool := (((band .i64 (bshr .i64 x (IntKind.u64.wrap i)) 1) : Int) == 1)
def st (d b : Int) (i : Nat) : Nat := match bitE d i with
  | false => 0
  | true => match bitE b i with
    | false => 1
    | true => 2

theorem bitE_f {x i : Int} (h : bitE x i = false) : (((band .i64 (bshr .i64 x (IntKind.u64.wrap i)) 1) : Int) == 1) = false := h
theorem bitE_t {x i : Int} (h : bitE x i = true) : (((band .i64 (bshr .i64 x (IntKind.u64.wrap i)) 1) : Int) == 1) = true := h

attribute [local irreducible] bitE

/-- The states that are given are the nodes'. -/
def fits (d b : Int) : List (Option Nat) → Nat → Prop
  | [], _ => True
  | some s :: l, i => s = st d b i ∧ fits d b l (i + 1)
  | none :: l, i => fits d b l (i + 1)

def allS (s : Nat) (all : Bool) : Bool := match s with
  | 0 => all
  | _ => false

theorem goT_some {fv : V} {leaf : Nat → Bool → Hp → Prop} {s : Nat} {l : List (Option Nat)} {i up : Nat} {all : Bool} {H : Hp} (h : goT fv leaf (some s :: l) i up all H) : nodeK fv i s H (fun r H => goT fv leaf l (i + 1) (add1 r up) (allS s all) H) := by
  have e : ∀ a, (fun (r : Bool) (H : Hp) => fN (add1 r up) fun up => fN (Nat.succ i) fun i => goT fv leaf l i up a H) = fun r H => goT fv leaf l (i + 1) (add1 r up) a H := by
    intro a
    funext r H
    rw [fN_eq, fN_eq]
  cases s with
  | zero =>
    have h0 : nodeK fv i 0 H (fun (r : Bool) (H : Hp) => fN (add1 r up) fun up => fN (Nat.succ i) fun i => goT fv leaf l i up all H) := h
    rw [e] at h0
    exact h0
  | succ k =>
    have h0 : nodeK fv i (k + 1) H (fun (r : Bool) (H : Hp) => fN (add1 r up) fun up => fN (Nat.succ i) fun i => goT fv leaf l i up false H) := h
    rw [e] at h0
    exact h0

theorem goT_none {fv : V} {leaf : Nat → Bool → Hp → Prop} {l : List (Option Nat)} {i up : Nat} {all : Bool} {H : Hp} (h : goT fv leaf (none :: l) i up all H) (s : Nat) (hs : s = 0 ∨ s = 1 ∨ s = 2) : nodeK fv i s H (fun r H => goT fv leaf l (i + 1) (add1 r up) (allS s all) H) := by
  have e : ∀ a, (fun (r : Bool) (H : Hp) => fN (add1 r up) fun up => fN (Nat.succ i) fun i => goT fv leaf l i up a H) = fun r H => goT fv leaf l (i + 1) (add1 r up) a H := by
    intro a
    funext r H
    rw [fN_eq, fN_eq]
  obtain ⟨h0, h1, h2⟩ := (show (nodeK fv i 0 H fun r H => fN (add1 r up) fun up => fN (Nat.succ i) fun i => goT fv leaf l i up all H) ∧ (nodeK fv i 1 H fun r H => fN (add1 r up) fun up => fN (Nat.succ i) fun i => goT fv leaf l i up false H) ∧ (nodeK fv i 2 H fun r H => fN (add1 r up) fun up => fN (Nat.succ i) fun i => goT fv leaf l i up false H) from h)
  rw [e] at h0 h1 h2
  rcases hs with rfl | rfl | rfl
  · exact h0
  · exact h1
  · exact h2

theorem st_in (d b : Int) (i : Nat) : st d b i = 0 ∨ st d b i = 1 ∨ st d b i = 2 := by
  unfold st
  cases bitE d i with
  | false => exact .inl rfl
  | true => cases bitE b i with
    | false => exact .inr (.inl rfl)
    | true => exact .inr (.inr rfl)

theorem goT_one {fv : V} {leaf : Nat → Bool → Hp → Prop} {x : Option Nat} {l : List (Option Nat)} {i up : Nat} {all : Bool} {H : Hp} {d b : Int} (h : goT fv leaf (x :: l) i up all H) (hf : fits d b (x :: l) i) :
    nodeK fv i (st d b i) H (fun r H => goT fv leaf l (i + 1) (add1 r up) (allS (st d b i) all) H) ∧ fits d b l (i + 1) := by
  cases x with
  | some s =>
    have hf1 : s = st d b i := hf.1
    exact ⟨hf1 ▸ goT_some h, hf.2⟩
  | none => exact ⟨goT_none h _ (st_in d b i), hf⟩

section
variable {w0 : Bs} {m : Mp} {w : World} {H : Hp} {fv : V} {rf : Value}

abbrev iR (n : Nat) : Value := .int .i64 (n : Int)
theorem iV_rel (m : Mp) (n : Nat) : VR m (iV n) (iR n) := rfl

/-- What is known behind a call. -/
def Bn (w0 : Bs) (m : Mp) (w' : World) (K : Hp → Prop) : Prop := ∃ m' H', Le m m' ∧ St w0 m' w' H' ∧ K H'

theorem Bn.pre {m1 : Mp} {w' : World} {K : Hp → Prop} (hB : Bn w0 m1 w' K) (h : Le m m1) : Bn w0 m w' K := by
  obtain ⟨m2, H2, h2, h3, h4⟩ := hB
  exact ⟨m2, H2, h.trans h2, h3, h4⟩

theorem node_c {i : Nat} {K : V → Hp → Prop} (hS : St w0 m w H) (hf : VR m fv rf) (h : cD 7 [fv, iV i] H fun p H => pO p fun _ _ => K p H) :
    Calls Tryz.prog 7 #[rf, .int .i64 (i : Int)] w fun e w' => ∃ a, e = .returned (.pointer a) ∧ ∃ p m' H', VR m' p (.pointer a) ∧ Le m m' ∧ St w0 m' w' H' ∧ K p H' := by
  refine (cD_ok w0 _ [fv, iV i] [rf, iR i] m w H _ h hS ⟨hf, iV_rel m i, trivial⟩).mono ?_
  rintro e w' ⟨rv, rfl, m', v, H', hle, hv, hS', hG, hk⟩
  obtain ⟨o, off, rfl, hk⟩ := pO_iff hk
  obtain ⟨b, N, hm, rfl⟩ := (show CR m' (.p o off) rv from hv)
  exact ⟨_, rfl, .c (.p o off), m', H', ⟨b, N, hm, rfl⟩, hle, hS', hk⟩

theorem up_c {p : V} {rp : Value} {K : Bool → Hp → Prop} (hS : St w0 m w H) (hp : VR m p rp) (h : cD 10 [p] H fun r H => onB r (K true H) (K false H)) :
    Calls Tryz.prog 10 #[rp] w fun e w' => ∃ h, e = .returned (.bool h) ∧ Bn w0 m w' (K h) := by
  refine (cD_ok w0 _ [p] [rp] m w H _ h hS ⟨hp, trivial⟩).mono ?_
  rintro e w' ⟨rv, rfl, m', v, H', hle, hv, hS', hG, hk⟩
  obtain ⟨b, rfl, hk2⟩ := onB_iff hk
  have hv : rv = .bool b := hv
  subst hv
  rcases hk2 with ⟨rfl, hk⟩ | ⟨rfl, hk⟩
  · exact ⟨_, rfl, m', H', hle, hS', hk⟩
  · exact ⟨_, rfl, m', H', hle, hS', hk⟩

theorem fail_c {p : V} {rp : Value} {K : Hp → Prop} (hS : St w0 m w H) (hp : VR m p rp) (h : cD 8 [p] H fun v H => unitK v (K H)) :
    Calls Tryz.prog 8 #[rp] w fun e w' => e = .returned (.tuple #[]) ∧ Bn w0 m w' K := by
  refine (cD_ok w0 _ [p] [rp] m w H _ h hS ⟨hp, trivial⟩).mono ?_
  rintro e w' ⟨rv, rfl, m', v, H', hle, hv, hS', hG, hk⟩
  obtain ⟨l, rfl, hk2⟩ := onT_iff hk
  split at hk2
  · obtain ⟨rs, rfl, hrs⟩ := hv
    cases rs with
    | nil => exact ⟨rfl, m', H', hle, hS', hk2⟩
    | cons => exact hrs.elim
  · exact hk2.elim

theorem back_c {p : V} {rp : Value} {K : Hp → Prop} (hS : St w0 m w H) (hp : VR m p rp) (h : cD 9 [p] H fun v H => onB v (K H) (K H)) :
    Calls Tryz.prog 9 #[rp] w fun e w' => ∃ f, e = .returned (.bool f) ∧ Bn w0 m w' K := by
  refine (cD_ok w0 _ [p] [rp] m w H _ h hS ⟨hp, trivial⟩).mono ?_
  rintro e w' ⟨rv, rfl, m', v, H', hle, hv, hS', hG, hk⟩
  obtain ⟨b, rfl, hk2⟩ := onB_iff hk
  have hv : rv = .bool b := hv
  subst hv
  rcases hk2 with ⟨_, hk⟩ | ⟨_, hk⟩
  · exact ⟨_, rfl, m', H', hle, hS', hk⟩
  · exact ⟨_, rfl, m', H', hle, hS', hk⟩

/-- A node is asked whether it is up. -/
theorem upK_c {i : Nat} {K : Bool → Hp → Prop} {Q : Option Addr → Bool → World → Prop} (hS : St w0 m w H) (hf : VR m fv rf) (h : upK fv i H K) (hQ : ∀ c b w', Bn w0 m w' (K b) → Q c b w') :
    Calls Tryz.prog 7 #[rf, .int .i64 (i : Int)] w fun e w1 => ∃ (c : Option Addr), e = .returned (.pointer c) ∧ Calls Tryz.prog 10 #[.pointer c] w1 fun e w2 => ∃ (h : Bool), e = .returned (.bool h) ∧ Q c h w2 := by
  refine (node_c hS hf h).mono ?_
  rintro e w1 ⟨a, rfl, p, m1, H1, hp, hle, hS1, h1⟩
  refine ⟨_, rfl, (up_c hS1 hp h1).mono ?_⟩
  rintro e w2 ⟨b, rfl, m2, H2, hle2, hS2, h2⟩
  exact ⟨_, rfl, hQ _ b w2 ⟨m2, H2, hle.trans hle2, hS2, h2⟩⟩

theorem failK_c {i : Nat} {K : Hp → Prop} {Q : Option Addr → World → Prop} (hS : St w0 m w H) (hf : VR m fv rf) (h : failK fv i H K) (hQ : ∀ c w', Bn w0 m w' K → Q c w') :
    Calls Tryz.prog 7 #[rf, .int .i64 (i : Int)] w fun e w1 => ∃ (c : Option Addr), e = .returned (.pointer c) ∧ Calls Tryz.prog 8 #[.pointer c] w1 fun e w2 => e = .returned (.tuple #[]) ∧ Q c w2 := by
  refine (node_c hS hf h).mono ?_
  rintro e w1 ⟨a, rfl, p, m1, H1, hp, hle, hS1, h1⟩
  refine ⟨_, rfl, (fail_c hS1 hp h1).mono ?_⟩
  rintro e w2 ⟨rfl, m2, H2, hle2, hS2, h2⟩
  exact ⟨rfl, hQ _ w2 ⟨m2, H2, hle.trans hle2, hS2, h2⟩⟩

theorem backK_c {i : Nat} {K : Hp → Prop} {Q : Option Addr → Bool → World → Prop} (hS : St w0 m w H) (hf : VR m fv rf) (h : backK fv i H K) (hQ : ∀ c f w', Bn w0 m w' K → Q c f w') :
    Calls Tryz.prog 7 #[rf, .int .i64 (i : Int)] w fun e w1 => ∃ (c : Option Addr), e = .returned (.pointer c) ∧ Calls Tryz.prog 9 #[.pointer c] w1 fun e w2 => ∃ (f : Bool), e = .returned (.bool f) ∧ Q c f w2 := by
  refine (node_c hS hf h).mono ?_
  rintro e w1 ⟨a, rfl, p, m1, H1, hp, hle, hS1, h1⟩
  refine ⟨_, rfl, (back_c hS1 hp h1).mono ?_⟩
  rintro e w2 ⟨f, rfl, m2, H2, hle2, hS2, h2⟩
  exact ⟨_, rfl, hQ _ _ w2 ⟨m2, H2, hle.trans hle2, hS2, h2⟩⟩
end

/-! ### The end -/

theorem talk_rel (m : Mp) (n : Nat) : LR m ((talkL n).map cv1) (talkL n) :=
  ⟨by simp, fun i u hi => ⟨cv1 u, by rw [List.getElem?_map, hi]; rfl, cv1_rel m u, List.all_eq_true.1 (show (talkL n).all (fun v => stC (cv1 v)) = true from rfl) u (List.mem_of_getElem? hi)⟩⟩

noncomputable def talkD (n : Nat) : Lv C 3 := lputs 3 ((talkL n).map cv1) (uni .un 3) 0

theorem talk_tr (m : Mp) (n : Nat) : TR m 3 (talkD n) 0 (talkL n) :=
  lputs_rel (n := 17) (talk_rel m n) rfl (by omega)

theorem talk_v (m : Mp) (n : Nat) : VR m (.a 3 (talkD n) 0 17) (.agg (talkL n).toArray) := ⟨talkL n, rfl, rfl, talk_tr m n⟩

/-- What the conversation's record is like at its end. -/
structure Ends (n up : Nat) (all : Bool) (q : Bodegarun11TalkR) : Prop where
  over : q.Over = true
  few : 2 * up ≤ n → q.Code = 9
  many : ¬ 2 * up ≤ n → q.Code = 0 ∧ (((q.Status == 1) == all) = true ∧ (all = false → q.Status = 3) ∧ q.View.Members_l = n)

theorem eqI_one {a b : Int} (h : eqI a b = true) : a = b := by
  rw [eqI_eq] at h
  simpa using h

theorem end_c {m : Mp} {H : Hp} {fv t : V} {rt : Value} {n up : Nat} {all : Bool} (h : finK n fv up all H t) (hv : VR m t rt) : ∃ q : Bodegarun11TalkR, rt = q.val ∧ Ends n up all q ∧
    (2 * up ≤ n → cD 12 [fv, iV 0] H fun v _ => onI v fun k z => iff (Nat.beq k 3) (iff (eqI z 1) True False) False) := by
  obtain ⟨dp, d, o, sz, rfl, h1⟩ := onA_iff h
  obtain ⟨hsz, h2⟩ := iff_t h1
  have hsz := beq_eq hsz
  subst hsz
  rw [cellsK_iff] at h2
  obtain ⟨cs, rfl, hl, ht⟩ := hv
  have hall := all2_cells hl fun i u hi => (ht.2 i u hi).1
  split at h2
  rotate_left
  · exact h2.elim
  rename_i k0 k1 k2 k3 k4 k5 k6 k7 g over bad code num mem status doors val heq
  rw [heq] at hall
  match cs, hall with
  | [u0, u1, u2, u3, u4, u5, u6, u7, u8, u9, u10, u11, u12, u13, u14, u15, u16], ⟨r0, r1, r2, r3, r4, r5, r6, r7, r8, r9, r10, r11, r12, r13, r14, r15, r16, _⟩ =>
  obtain ⟨hg, h3⟩ := iff_t h2
  obtain ⟨hm, h4⟩ := iff_t h3
  obtain ⟨hd, h5⟩ := iff_t h4
  obtain ⟨ho, h6⟩ := iff_t h5
  obtain ⟨ga, gl, gc, rfl, _⟩ := slice_of hg r8
  obtain ⟨ma, ml, mc, rfl, hml⟩ := slice_of hm r13
  obtain ⟨da, dl, dc, rfl, _⟩ := slice_of hd r15
  refine ⟨⟨k0, k1, ⟨k2⟩, ⟨k3, k4, k5, k6, k7⟩, ga, gl, gc, over, bad, code, ⟨num, ma, ml, mc⟩, status, da, dl, dc, val⟩, ?_, ⟨ho, fun hu => ?_, fun hu => ?_⟩, fun hu => ?_⟩
  · have r0 : u0 = .int .i64 k0 := r0
    have r1 : u1 = .int .i64 k1 := r1
    have r2 : u2 = .int .i64 k2 := r2
    have r3 : u3 = .int .i64 k3 := r3
    have r4 : u4 = .int .i64 k4 := r4
    have r5 : u5 = .int .i64 k5 := r5
    have r6 : u6 = .int .i64 k6 := r6
    have r7 : u7 = .int .u64 k7 := r7
    have r9 : u9 = .bool over := r9
    have r10 : u10 = .bool bad := r10
    have r11 : u11 = .int .i64 code := r11
    have r12 : u12 = .int .i64 num := r12
    have r14 : u14 = .int .i64 status := r14
    have r16 : u16 = .int .u64 val := r16
    subst r0 r1 r2 r3 r4 r5 r6 r7 r9 r10 r11 r12 r14 r16
    rfl
  · rcases iff_c h6 with ⟨hb, h7⟩ | ⟨hb, h7⟩
    · exact eqI_one (iff_t h7).1
    · have := not_ble hb
      have e : Nat.mul 2 up = 2 * up := rfl
      omega
  · rcases iff_c h6 with ⟨hb, h7⟩ | ⟨hb, h7⟩
    · have := ble_le hb
      have e : Nat.mul 2 up = 2 * up := rfl
      omega
    · obtain ⟨hc, h8⟩ := iff_t h7
      obtain ⟨hs, h9⟩ := iff_t h8
      obtain ⟨hn, _⟩ := iff_t h9
      have hn := beq_eq hn
      refine ⟨eqI_one hc, ?_, ?_, by rw [← hn]; exact hml.symm⟩
      · cases all with
        | true => have := eqI_one (show eqI status 1 = true from hs); simp [this]
        | false => have := eqI_one (show eqI status 3 = true from hs); simp [this]
      · intro e
        subst e
        exact eqI_one (show eqI status 3 = true from hs)
  · rcases iff_c h6 with ⟨hb, h7⟩ | ⟨hb, h7⟩
    · exact (iff_t h7).2
    · have := not_ble hb
      have e : Nat.mul 2 up = 2 * up := rfl
      omega

/-! ### The law -/

theorem step64 {n : Nat} (h : n ≤ 1000) : IntKind.i64.wrap ((n : Int) + 1) = ((n + 1 : Nat) : Int) := by
  rw [w64 (by omega) (by omega)]; omega

abbrev DMPost (w : World) : Value → World → Prop := fun v w' => v = .bool true ∧ New w w'

/-- The loop over the nodes, and what stands behind it. -/
theorem nodes_c {w w5 : World} {m : Mp} {H : Hp} {o off : Nat} {fa : Option Addr} {n : Nat} {d b : Int} {jj : List Value} {l : List (Option Nat)} (h1 : 1 ≤ n) (h5 : n ≤ 5) (hl : l.length = n) (hS : St ⟨w, fun _ => False⟩ m w5 H) (hf : VR m (.c (.p o off)) (.pointer fa)) (hfit : fits d b l 0)
    (hg : goT (.c (.p o off)) (leafK n (.c (.p o off))) l 0 0 true H) :
    codeW Tryz.prog (.loop (sub (bodyOf Tryz.f3) [1, 1, 1, 1, 1, 1, 0, 1, 0, 0])) (bodegalaw11_DiscoverMajority_env1 (n : Int) d b fa 0 true 0 jj)
      (blockQ 0 (seqQ (fun env z => W Tryz.prog (sub (bodyOf Tryz.f3) [1, 1, 1, 1, 1, 1, 1]) env (retQ Tryz.prog Tryz.f3 (DMPost w)) z) (retQ Tryz.prog Tryz.f3 (DMPost w)))) w5 := by
  refine loop_rule mix (fun mm env u => ∃ (i up : Nat) (all : Bool) (jj : List Value) (l : List (Option Nat)) (m : Mp) (H : Hp), mm + i = n ∧ up ≤ i ∧ l.length + i = n ∧ env = bodegalaw11_DiscoverMajority_env1 (n : Int) d b fa (up : Int) all (i : Int) jj ∧
      St ⟨w, fun _ => False⟩ m u H ∧ VR m (.c (.p o off)) (.pointer fa) ∧ fits d b l i ∧ goT (.c (.p o off)) (leafK n (.c (.p o off))) l i up all H) n ⟨0, 0, true, jj, l, m, H, rfl, Nat.le_refl _, by omega, rfl, hS, hf, hfit, hg⟩ ?_
  rintro mm env u ⟨i, up, all, jj, l, m, H, hmm, hui, hli, rfl, hS, hf, hfit, hg⟩
  rw [bodegalaw11_DiscoverMajority_loop1_body]
  refine bif_dec (fun hp => ?_) (fun hp => ?_)
  · cases l with
    | nil => simp at hli; omega
    | cons x l =>
      obtain ⟨hn, hfit'⟩ := goT_one hg hfit
      have hw : 0 ≤ IntKind.u64.wrap (i : Int) := by rw [wu64 (by omega) (by omega)]; omega
      have hli' : l.length + (i + 1) = n := by simp at hli; omega
      have ei : IntKind.i64.wrap ((i : Int) + 1) = ((i + 1 : Nat) : Int) := step64 (by omega)
      have eu : IntKind.i64.wrap ((up : Int) + 1) = ((up + 1 : Nat) : Int) := step64 (by omega)
      have fin : ∀ {all' : Bool} (r : Bool) {w' : World} {jj : List Value} {e : Int}, e = ((add1 r up : Nat) : Int) → Bn ⟨w, fun _ => False⟩ m w' (fun H => goT (.c (.p o off)) (leafK n (.c (.p o off))) l (i + 1) (add1 r up) all' H) →
          ∃ m', m' < mm ∧ ∃ (i up : Nat) (all : Bool) (jj' : List Value) (l : List (Option Nat)) (m : Mp) (H : Hp), m' + i = n ∧ up ≤ i ∧ l.length + i = n ∧ bodegalaw11_DiscoverMajority_env1 (n : Int) d b fa e all' (IntKind.i64.wrap (((n - mm : Nat) : Int) + 1)) jj = bodegalaw11_DiscoverMajority_env1 (n : Int) d b fa (up : Int) all (i : Int) jj' ∧
            St ⟨w, fun _ => False⟩ m w' H ∧ VR m (.c (.p o off)) (.pointer fa) ∧ fits d b l i ∧ goT (.c (.p o off)) (leafK n (.c (.p o off))) l i up all H := by
        rintro all' r w' jj e rfl ⟨m', H', hle, hS', hk⟩
        have hni : n - mm = i := by omega
        rw [hni, ei]
        exact ⟨mm - 1, by omega, i + 1, add1 r up, all', jj, l, m', H', by omega, by cases r <;> simp only [add1] <;> omega, hli', rfl, hS', hf.mono hle, hfit', hk⟩
      have hni : n - mm = i := by omega
      rw [hni] at fin
      refine ⟨hw, ?_⟩
      cases hd : bitE d i with
      | false =>
        have hst : st d b i = 0 := by unfold st; rw [hd]
        rw [hst] at hn
        refine bif_f (bitE_f hd) ?_
        have hn : upK (.c (.p o off)) i H (fun r H => goT (.c (.p o off)) (leafK n (.c (.p o off))) l (i + 1) (add1 r up) (allS 0 all) H) := hn
        refine upK_c hS hf hn fun _ r w' hB => ?_
        cases r with
        | true => exact bif_t rfl (fin true (by rw [eu]; rfl) hB)
        | false => exact bif_f rfl (fin false rfl hB)
      | true =>
        refine bif_t (bitE_t hd) ?_
        cases hb : bitE b i with
        | false =>
          have hst : st d b i = 1 := by unfold st; rw [hd]; simp only [hb]
          rw [hst] at hn
          have hn : failK (.c (.p o off)) i H (fun H => upK (.c (.p o off)) i H (fun r H => goT (.c (.p o off)) (leafK n (.c (.p o off))) l (i + 1) (add1 r up) (allS 1 all) H)) := hn
          refine failK_c hS hf hn fun _ w1 hB1 => ?_
          obtain ⟨m1, H1, hle1, hS1, hk1⟩ := hB1
          refine ⟨hw, bif_f (bitE_f hb) ?_⟩
          refine upK_c hS1 (hf.mono hle1) hk1 fun _ r w' hB => ?_
          have hB' := hB.pre hle1
          cases r with
          | true => exact bif_t rfl (fin true (by rw [eu]; rfl) hB')
          | false => exact bif_f rfl (fin false rfl hB')
        | true =>
          have hst : st d b i = 2 := by unfold st; rw [hd]; simp only [hb]
          rw [hst] at hn
          have hn : failK (.c (.p o off)) i H (fun H => backK (.c (.p o off)) i H (fun H => upK (.c (.p o off)) i H (fun r H => goT (.c (.p o off)) (leafK n (.c (.p o off))) l (i + 1) (add1 r up) (allS 2 all) H))) := hn
          refine failK_c hS hf hn fun _ w1 hB1 => ?_
          obtain ⟨m1, H1, hle1, hS1, hk1⟩ := hB1
          refine ⟨hw, bif_t (bitE_t hb) ?_⟩
          refine backK_c hS1 (hf.mono hle1) hk1 fun _ _ w2 hB2 => ?_
          obtain ⟨m2, H2, hle2, hS2, hk2⟩ := hB2
          refine upK_c hS2 (hf.mono (hle1.trans hle2)) hk2 fun _ r w' hB => ?_
          have hB' := hB.pre (hle1.trans hle2)
          cases r with
          | true => exact bif_t rfl (fin true (by rw [eu]; rfl) hB')
          | false => exact bif_f rfl (fin false rfl hB')
  · have hi : i = n := by omega
    cases l with
    | cons x l => simp at hli; omega
    | nil =>
    have hg : leafK n (.c (.p o off)) up all H := hg
    rw [bodegalaw11_DiscoverMajority_aft1_vc]
    unfold leafK at hg
    rw [putsK_iff] at hg
    refine (cD_ok ⟨w, fun _ => False⟩ _ [.c (.p o off), .a 3 (talkD n) 0 17] [.pointer fa, .agg (talkL n).toArray] m u H _ hg hS ⟨hf, talk_v m n, trivial⟩).mono ?_
    rintro e w1 ⟨rv, rfl, m1, t, H1, hle, hv, hS1, hG, hk⟩
    obtain ⟨q, rfl, hE, htrip⟩ := end_c hk hv
    refine Bodegarun11TalkR.mk_ex q ⟨rfl, ?_⟩
    refine box_k (vs := q.cells) rfl (Bodegarun11TalkR.single _) fun b1 w2 hb1 hz hn2 => ?_
    have hS2 : St ⟨w, fun _ => False⟩ m1 w2 H1 := ⟨hS1.hr.keepN hn2, hS1.new.trans hn2 fun _ _ h => h.elim⟩
    have hnew : New w w2 := hS2.new
    rw [w64 (by omega) (by omega)]
    refine bif_dec (fun hu => ?_) (fun hu => ?_)
    · refine ⟨_, hz.cell (i := 9) rfl, bif_t hE.over ?_⟩
      have hc := hE.few (by omega)
      refine ⟨_, hz.cell (i := 11) rfl, bif_t (by rw [hc]; rfl) ?_⟩
      refine (cD_ok ⟨w, fun _ => False⟩ _ [.c (.p o off), iV 0] [.pointer fa, iR 0] m1 w2 H1 _ (htrip (by omega)) hS2 ⟨hf.mono hle, iV_rel m1 0, trivial⟩).mono ?_
      rintro e w3 ⟨rv, rfl, m2, v, H2, _, hv2, hS3, _, hk2⟩
      obtain ⟨k, z, rfl, hk3⟩ := onI_iff hk2
      obtain ⟨hk4, hk5⟩ := iff_t hk3
      obtain ⟨hz1, _⟩ := iff_t hk5
      have hk4 := beq_eq hk4
      have hz1 := eqI_one hz1
      subst hk4 hz1
      have hv2 : rv = .int .i64 1 := hv2
      subst hv2
      exact ⟨_, rfl, rfl, hS3.new⟩
    · obtain ⟨hc, hs1, hs2, hml⟩ := hE.many (by omega)
      refine ⟨_, hz.cell (i := 9) rfl, bif_t hE.over ?_⟩
      refine ⟨_, hz.cell (i := 11) rfl, bif_t (by rw [hc]; rfl) ?_⟩
      refine ⟨_, hz.cell (i := 14) rfl, bif_t hs1 ?_⟩
      cases all with
      | true => exact bif_t rfl ⟨_, _, _, hz.cell (i := 13) rfl, by rw [hml]; simp, hnew⟩
      | false => exact bif_f rfl ⟨_, hz.cell (i := 14) rfl, bif_t (by rw [hs2 rfl]; rfl) ⟨_, _, _, hz.cell (i := 13) rfl, by rw [hml]; simp, hnew⟩⟩
end Go.Mx
