/- The status of a view, of the program and of the reference. -/
import Derived.Test.YtihfgcmmljnhnaaGreatFO
import Derived.Test.YtihfgcmmljnhnaaGreatCodeDS
set_option linter.unusedVariables false
namespace Go.Proofs.YtihfgcmmljnhnaaGreat
open Go.Eng

/-! ### The model -/

def key1 (number : Int) : Int := 2 * number + 1
def atN (l : List Int) (n : Int) : Int := if 0 ≤ n ∧ n < l.length then l.getD n.toNat 0 else 0
def hereM (b : List Int) (m : ApiMemberR) : Bool := decide (atN b m.Node = m.Boot)
def openM (k : List Int) (key : Int) (m : ApiMemberR) : Bool := decide (atN k m.Node = key)
def statusM (v : Vw) (b k : List Int) : Int := if v.mem.all (hereM b) = true then (if v.mem.all (openM k (key1 v.number)) = true then 1 else 2) else 3
def openedM (v : Vw) (k : List Int) : Bool := k.any fun x => x == key1 v.number

theorem within_c (w : World) (x a b : Int) : Does 82 [.int .i64 x, .int .i64 a, .int .i64 b] w fun v w' => v = .bool (decide (a ≤ x ∧ x ≤ b)) ∧ w' = w := by
  refine does Tryz.func82 ?_
  rw [word_within_int_vc]
  refine bif_dec (fun h => ⟨?_, rfl⟩) (fun h => ⟨?_, rfl⟩)
  · have : a ≤ x := h
    simp [this]
  · have : ¬ a ≤ x := h
    simp [this]

theorem Key_c (w : World) {n : Int} (h0 : 0 ≤ n) (h1 : n < 16) : Does 39 [.int .i64 n, .bool true] w fun v w' => v = .tuple #[.int .u64 (key1 n), .int .i64 0] ∧ w' = w := by
  refine does Tryz.func39 ?_
  rw [word_Key_vc]
  refine at_call (within_c w n 0 15) ?_
  rintro v w1 ⟨rfl, rfl⟩
  refine ⟨_, rfl, bif_f (by simp; omega) (bif_t rfl ⟨?_, rfl⟩)⟩
  rw [wrapu (x := n) (by omega) (by omega), wrapu (x := n * 2) (by omega) (by omega), wrapu (by omega) (by omega)]
  unfold key1
  rw [Int.mul_comm]

theorem RKey_c (w : World) {n : Int} (h0 : 0 ≤ n) (h1 : n < 16) : Does 40 [.int .i64 n, .bool true] w fun v w' => v = .tuple #[.int .u64 (key1 n), .int .i64 0] ∧ w' = w := by
  refine does Tryz.func40 ?_
  rw [bodegaref1_Key_vc]
  refine bif_dec (fun h => absurd h (by omega)) (fun _ => bif_dec (fun h => absurd h (by omega)) (fun _ => bif_t rfl ⟨?_, rfl⟩))
  rw [w64 (x := 2 * n) (by omega) (by omega), wrapu (x := 2 * n) (by omega) (by omega), wrapu (by omega) (by omega)]
  rfl

/-- A word of a slice of words. -/
theorem rd_u {u : World} {a : Option Addr} {l : List Int} (h : Rd u a (us l)) {i : Nat} {x : Int} (hx : l[i]? = some x) {z : Int} (hz : z = i) {n : Nat} (hn : n = l.length) {K : Addr → Prop}
    (hk : ∀ b o, (∀ y, New u y → y.cell? ⟨b, o, none⟩ = some (.int .u64 x)) → K ⟨b, o, none⟩) : idxS a n z 1 K := by
  subst hz hn
  have hlt := lt_of_get hx
  have hxx : (us l)[i]? = some (.int .u64 x) := by simp [us, hx]
  rcases h with he | ⟨b, o, rfl, hc⟩
  · rw [he] at hxx; cases hxx
  · refine idxS_mk (by omega) (by omega) ?_
    have := hk b (o + i) fun y hy => (Rd.new hy (.inr ⟨b, o, rfl, hc⟩)).cell hxx
    simpa using this

/-- An element under its number, as it is reached. -/
theorem atN_in {l : List Int} {n : Int} (h0 : 0 ≤ n) (h1 : n < l.length) : ∃ x, l[n.toNat]? = some x ∧ atN l n = x := by
  have hlt : n.toNat < l.length := by omega
  refine ⟨l[n.toNat], List.getElem?_eq_getElem hlt, ?_⟩
  unfold atN
  rw [if_pos ⟨h0, h1⟩, getD_of (List.getElem?_eq_getElem hlt)]
theorem atN_out {l : List Int} {n : Int} (h : ¬ (0 ≤ n ∧ n < l.length)) : atN l n = 0 := by unfold atN; rw [if_neg h]

theorem leaf_k {w2 : World} {b1 : Nat} {bt : Int} (hc : w2.cell? ⟨b1, 0 + 1, none⟩ = some (.int .i64 bt)) {bx kx key : Int} {A B1 B2 B3 : Int → Prop} (hA : bx ≠ bt → A bt) (h2 : bx = bt → kx ≠ key → B2 bt) (h3 : bx = bt → kx = key → B3 bt) :
    ∃ Boot, w2.cell? ⟨b1, 0 + 1, none⟩ = some (.int .i64 Boot) ∧ (bif (bx != Boot) then A Boot else (bif ((0 : Int) != 0) then B1 Boot else (bif (kx != key) then B2 Boot else B3 Boot))) :=
  ⟨bt, hc, bif_bne hA fun h => bif_f rfl (bif_bne (h2 h) (h3 h))⟩

set_option maxHeartbeats 1000000 in
theorem Status_c {M : Nat → Prop} {w : World} {r : ApiViewR} {v : Vw} (h : ViewAt M w r v) (hn : 0 ≤ v.number ∧ v.number < 16) {a1 a2 : Option Addr} {n1 c1 n2 c2 : Nat} {b k : List Int} (hb : Rd w a1 (is b)) (hbl : n1 = b.length) (hk : Rd w a2 (us k)) (hkl : n2 = k.length) (hbs : b.length ≤ 1000000) (hks : k.length ≤ 1000000) :
    Does 12 [r.val, .slice a1 n1 c1, .slice a2 n2 c2] w fun x w' => x = .tuple #[.int .i64 (statusM v b k), .bool (openedM v k)] ∧ New w w' := by
  subst hbl hkl
  refine does Tryz.func12 ?_
  rw [discover_Status_vc]
  rintro b1 w1 hb1 hw1
  obtain ⟨hz, hn1⟩ := box_new hb1 hw1
  have hz : Blk w1 b1 r.cells TVw := hz
  clear hw1
  have hnum := h.num
  have hlen := h.len
  have hsm := h.small
  refine ⟨_, hz.cell (i := 0) rfl, ?_⟩
  rw [hnum]
  refine at_call (Key_c w1 hn.1 hn.2) ?_
  rintro x w2 ⟨rfl, rfl⟩
  refine ⟨_, _, rfl, ?_⟩
  refine loop_rule mix (fun m env u => ∃ (i : Nat) (oo : Bool) (jj : List Value), m = k.length - i ∧ i ≤ k.length ∧ env = discover_Status_env1 a1 b.length c1 a2 k.length c2 ⟨b1, 0, none⟩ oo (key1 v.number) 0 a2 k.length c2 k.length i jj ∧ u = w2 ∧ oo = (k.take i).any fun x => x == key1 v.number) k.length
    ⟨0, false, _, by omega, by omega, rfl, rfl, rfl⟩ ?_
  rintro m env u ⟨i, oo, jj, rfl, hi, rfl, rfl, hoo⟩
  rw [discover_Status_loop1_body]
  refine bif_dec (fun hq => ?_) (fun hq => ?_)
  · have hlt : i < k.length := by omega
    have hg : k[i]? = some k[i] := List.getElem?_eq_getElem hlt
    have hany : ((k.take (i + 1)).any fun x => x == key1 v.number) = (((k.take i).any fun x => x == key1 v.number) || k[i] == key1 v.number) := by
      rw [List.take_add_one, hg, List.any_append]
      simp
    refine rd_u (hk.new hn1) hg rfl rfl fun bb o hc => ⟨_, hc _ (Keep.refl _ _), ?_⟩
    rw [w64 (by omega) (by omega)]
    refine bif_b (fun ht => ?_) (fun hf => bif_t rfl ?_)
    · exact ⟨k.length - (i + 1), by omega, i + 1, _, _, rfl, by omega, rfl, rfl, by rw [hany, ← hoo, ht]; rfl⟩
    · exact ⟨k.length - (i + 1), by omega, i + 1, _, _, rfl, by omega, rfl, rfl, by rw [hany, ← hoo, hf]; rfl⟩
  have htk : k.take i = k := List.take_of_length_le (by omega)
  rw [htk] at hoo
  subst hoo
  rw [discover_Status_aft1_vc]
  refine ⟨_, _, _, hz.cell (i := 1) rfl, ?_⟩
  clear hq hi htk
  -- the members
  refine loop_rule mix (fun m env z => ∃ (i : Nat) (jj : List Value), m = v.mem.length - i ∧ i ≤ v.mem.length ∧ env = discover_Status_env2 a1 b.length c1 a2 k.length c2 (if (v.mem.take i).all (openM k (key1 v.number)) = true then 1 else 2) (k.any fun x => x == key1 v.number) (key1 v.number) 0 r.Members r.Members_l r.Members_c r.Members_l i jj ∧ New u z ∧ (v.mem.take i).all (hereM b) = true) v.mem.length
    ⟨0, _, by omega, by omega, rfl, Keep.refl _ _, rfl⟩ ?_
  rintro m env z ⟨i, jj, rfl, hi, rfl, hnz, hok⟩
  have hnz0 := hn1.new hnz
  rw [discover_Status_loop2_body]
  refine bif_dec (fun hq => ?_) (fun hq => ?_)
  · have hlt : i < v.mem.length := by omega
    have hg : v.mem[i]? = some v.mem[i] := List.getElem?_eq_getElem hlt
    refine rd_rec (cells := ApiMemberR.cells) ApiMemberR.len (by omega) (h.rd.new hnz0) hg rfl hlen fun bb o hc _ => ApiMemberR.mk_ex v.mem[i] ⟨hc, ?_⟩
    refine box_k (vs := v.mem[i].cells) rfl (ApiMemberR.single _) fun b2 z2 hb2 hz2 hn2 => ?_
    have hn02 := hnz0.new hn2
    have hopen : (v.mem.take (i + 1)).all (openM k (key1 v.number)) = ((v.mem.take i).all (openM k (key1 v.number)) && openM k (key1 v.number) v.mem[i]) := by
      rw [List.take_add_one, hg, List.all_append]; simp
    have hhere : (v.mem.take (i + 1)).all (hereM b) = hereM b v.mem[i] := by
      rw [List.take_add_one, hg, List.all_append, hok]; simp
    have stop : ∀ bx, bx = atN b v.mem[i].Node → bx ≠ v.mem[i].Boot → (Value.tuple #[.int .i64 3, .bool (k.any fun x => x == key1 v.number)] = .tuple #[.int .i64 (statusM v b k), .bool (openedM v k)] ∧ New w z2) := by
      rintro bx rfl hne
      refine ⟨?_, hn02⟩
      have : ¬ v.mem.all (hereM b) = true := fun e => by
        have := List.all_eq_true.1 e _ (List.getElem_mem hlt)
        exact hne (of_decide_eq_true this)
      unfold statusM
      rw [if_neg this]
      rfl
    have go : ∀ (bx kx s : Int) (jj : List Value), bx = atN b v.mem[i].Node → kx = atN k v.mem[i].Node → bx = v.mem[i].Boot → s = (if kx = key1 v.number then (if (v.mem.take i).all (openM k (key1 v.number)) = true then 1 else 2) else 2) →
        ∃ m', m' < v.mem.length - i ∧ ∃ (i' : Nat) (jj' : List Value), m' = v.mem.length - i' ∧ i' ≤ v.mem.length ∧ discover_Status_env2 a1 b.length c1 a2 k.length c2 s (k.any fun x => x == key1 v.number) (key1 v.number) 0 r.Members r.Members_l r.Members_c r.Members_l (IntKind.i64.wrap ((i : Int) + 1)) jj = discover_Status_env2 a1 b.length c1 a2 k.length c2 (if (v.mem.take i').all (openM k (key1 v.number)) = true then 1 else 2) (k.any fun x => x == key1 v.number) (key1 v.number) 0 r.Members r.Members_l r.Members_c r.Members_l i' jj' ∧ New u z2 ∧ (v.mem.take i').all (hereM b) = true := by
      rintro bx kx s jj rfl rfl hbt hs
      rw [w64 (by omega) (by omega)]
      refine ⟨v.mem.length - (i + 1), by omega, i + 1, jj, rfl, by omega, ?_, hnz.new hn2, ?_⟩
      · have : s = (if (v.mem.take (i + 1)).all (openM k (key1 v.number)) = true then 1 else 2) := by
          rw [hs, hopen]
          by_cases hkey : atN k v.mem[i].Node = key1 v.number
          · have : openM k (key1 v.number) v.mem[i] = true := decide_eq_true hkey
            rw [if_pos hkey, this, Bool.and_true]
          · have : openM k (key1 v.number) v.mem[i] = false := decide_eq_false hkey
            rw [if_neg hkey, this, Bool.and_false]
            rfl
        rw [this]
        rfl
      · rw [hhere]
        exact decide_eq_true hbt
    have hcN := hz2.cell (i := 0) (v := .int .i64 v.mem[i].Node) rfl
    refine ⟨_, hcN, bif_dec (fun hN0 => ⟨_, hcN, bif_dec (fun hN1 => ⟨_, hcN, ?_⟩) (fun hN1 => ?_)⟩) (fun hN0 => ?_)⟩
    · obtain ⟨x, hx, hax⟩ := atN_in (l := b) hN0 hN1
      refine rd_i (hb.new hn02) hx (by have : 0 ≤ v.mem[i].Node := hN0; omega) rfl fun bb1 o1 hcx => ⟨_, hcx _ (Keep.refl _ _), ?_⟩
      have hbx := hax.symm
      have hc0 := hz2.cell (i := 0) (v := .int .i64 v.mem[i].Node) rfl
      refine ⟨_, hc0, bif_dec (fun hK0 => ⟨_, hc0, bif_dec (fun hK1 => ⟨_, hc0, ?_⟩) (fun hK1 => ?_)⟩) (fun hK0 => ?_)⟩
      · obtain ⟨y, hy, hay⟩ := atN_in (l := k) hK0 hK1
        refine rd_u (hk.new hn02) hy (by have : 0 ≤ v.mem[i].Node := hK0; omega) rfl fun bb2 o2 hcy => ⟨_, hcy _ (Keep.refl _ _), ?_⟩
        exact leaf_k (hz2.cell (i := 1) rfl) (fun hne => stop _ hbx hne) (fun h1 h2 => go _ _ 2 _ hbx hay.symm h1 (by rw [if_neg h2])) (fun h1 h2 => go _ _ _ _ hbx hay.symm h1 (by rw [if_pos h2]))
      · have hky := (atN_out (l := k) (n := v.mem[i].Node) (fun e => hK1 e.2)).symm
        exact leaf_k (hz2.cell (i := 1) rfl) (fun hne => stop _ hbx hne) (fun h1 h2 => go _ _ 2 _ hbx hky h1 (by rw [if_neg h2])) (fun h1 h2 => go _ _ _ _ hbx hky h1 (by rw [if_pos h2]))
      · have hky := (atN_out (l := k) (n := v.mem[i].Node) (fun e => hK0 e.1)).symm
        exact leaf_k (hz2.cell (i := 1) rfl) (fun hne => stop _ hbx hne) (fun h1 h2 => go _ _ 2 _ hbx hky h1 (by rw [if_neg h2])) (fun h1 h2 => go _ _ _ _ hbx hky h1 (by rw [if_pos h2]))
    · have hbx := (atN_out (l := b) (n := v.mem[i].Node) (fun e => hN1 e.2)).symm
      have hc0 := hz2.cell (i := 0) (v := .int .i64 v.mem[i].Node) rfl
      refine ⟨_, hc0, bif_dec (fun hK0 => ⟨_, hc0, bif_dec (fun hK1 => ⟨_, hc0, ?_⟩) (fun hK1 => ?_)⟩) (fun hK0 => ?_)⟩
      · obtain ⟨y, hy, hay⟩ := atN_in (l := k) hK0 hK1
        refine rd_u (hk.new hn02) hy (by have : 0 ≤ v.mem[i].Node := hK0; omega) rfl fun bb2 o2 hcy => ⟨_, hcy _ (Keep.refl _ _), ?_⟩
        exact leaf_k (hz2.cell (i := 1) rfl) (fun hne => stop _ hbx hne) (fun h1 h2 => go _ _ 2 _ hbx hay.symm h1 (by rw [if_neg h2])) (fun h1 h2 => go _ _ _ _ hbx hay.symm h1 (by rw [if_pos h2]))
      · have hky := (atN_out (l := k) (n := v.mem[i].Node) (fun e => hK1 e.2)).symm
        exact leaf_k (hz2.cell (i := 1) rfl) (fun hne => stop _ hbx hne) (fun h1 h2 => go _ _ 2 _ hbx hky h1 (by rw [if_neg h2])) (fun h1 h2 => go _ _ _ _ hbx hky h1 (by rw [if_pos h2]))
      · have hky := (atN_out (l := k) (n := v.mem[i].Node) (fun e => hK0 e.1)).symm
        exact leaf_k (hz2.cell (i := 1) rfl) (fun hne => stop _ hbx hne) (fun h1 h2 => go _ _ 2 _ hbx hky h1 (by rw [if_neg h2])) (fun h1 h2 => go _ _ _ _ hbx hky h1 (by rw [if_pos h2]))
    · have hbx := (atN_out (l := b) (n := v.mem[i].Node) (fun e => hN0 e.1)).symm
      have hc0 := hz2.cell (i := 0) (v := .int .i64 v.mem[i].Node) rfl
      refine ⟨_, hc0, bif_dec (fun hK0 => ⟨_, hc0, bif_dec (fun hK1 => ⟨_, hc0, ?_⟩) (fun hK1 => ?_)⟩) (fun hK0 => ?_)⟩
      · obtain ⟨y, hy, hay⟩ := atN_in (l := k) hK0 hK1
        refine rd_u (hk.new hn02) hy (by have : 0 ≤ v.mem[i].Node := hK0; omega) rfl fun bb2 o2 hcy => ⟨_, hcy _ (Keep.refl _ _), ?_⟩
        exact leaf_k (hz2.cell (i := 1) rfl) (fun hne => stop _ hbx hne) (fun h1 h2 => go _ _ 2 _ hbx hay.symm h1 (by rw [if_neg h2])) (fun h1 h2 => go _ _ _ _ hbx hay.symm h1 (by rw [if_pos h2]))
      · have hky := (atN_out (l := k) (n := v.mem[i].Node) (fun e => hK1 e.2)).symm
        exact leaf_k (hz2.cell (i := 1) rfl) (fun hne => stop _ hbx hne) (fun h1 h2 => go _ _ 2 _ hbx hky h1 (by rw [if_neg h2])) (fun h1 h2 => go _ _ _ _ hbx hky h1 (by rw [if_pos h2]))
      · have hky := (atN_out (l := k) (n := v.mem[i].Node) (fun e => hK0 e.1)).symm
        exact leaf_k (hz2.cell (i := 1) rfl) (fun hne => stop _ hbx hne) (fun h1 h2 => go _ _ 2 _ hbx hky h1 (by rw [if_neg h2])) (fun h1 h2 => go _ _ _ _ hbx hky h1 (by rw [if_pos h2]))
  · rw [discover_Status_aft2_vc]
    have htk : v.mem.take i = v.mem := List.take_of_length_le (by omega)
    rw [htk] at hok
    refine ⟨?_, hnz0⟩
    rw [htk]
    unfold statusM
    rw [if_pos hok]
    rfl

/-! ### The reference -/

theorem beq_dec (x y : Int) : (x == y) = decide (x = y) := by rw [Bool.eq_iff_iff]; simp

set_option maxHeartbeats 1000000 in
theorem RStatus_c {M : Nat → Prop} {w : World} {r : ApiViewR} {v : Vw} (h : ViewAt M w r v) (hn : 0 ≤ v.number ∧ v.number < 16) (hbt : ∀ m ∈ v.mem, 1 ≤ m.Boot) {a1 a2 : Option Addr} {n1 c1 n2 c2 : Nat} {b k : List Int} (hb : Rd w a1 (is b)) (hbl : n1 = b.length) (hk : Rd w a2 (us k)) (hkl : n2 = k.length) (hbs : b.length ≤ 1000000) (hks : k.length ≤ 1000000) :
    Does 13 [r.val, .slice a1 n1 c1, .slice a2 n2 c2] w fun x w' => x = .tuple #[.int .i64 (statusM v b k), .bool (openedM v k)] ∧ New w w' := by
  subst hbl hkl
  refine does Tryz.func13 ?_
  rw [bodegaref9_Status_vc]
  rintro b1 w1 hb1 hw1
  obtain ⟨hz, hn1⟩ := box_new hb1 hw1
  have hz : Blk w1 b1 r.cells TVw := hz
  clear hw1
  have hnum := h.num
  have hlen := h.len
  have hsm := h.small
  refine ⟨_, hz.cell (i := 0) rfl, ?_⟩
  rw [hnum]
  refine at_call (RKey_c w1 hn.1 hn.2) ?_
  rintro x w2 ⟨rfl, rfl⟩
  refine ⟨_, _, rfl, ?_⟩
  refine loop_rule mix (fun m env u => ∃ (i : Nat) (oo : Bool) (jj : List Value), m = k.length - i ∧ i ≤ k.length ∧ env = bodegaref9_Status_env1 a1 b.length c1 a2 k.length c2 ⟨b1, 0, none⟩ (key1 v.number) oo true true i jj ∧ u = w2 ∧ oo = (k.take i).any fun x => x == key1 v.number) k.length
    ⟨0, false, _, by omega, by omega, rfl, rfl, rfl⟩ ?_
  rintro m env u ⟨i, oo, jj, rfl, hi, rfl, rfl, hoo⟩
  rw [bodegaref9_Status_loop1_body]
  refine bif_dec (fun hq => ?_) (fun hq => ?_)
  · have hlt : i < k.length := by omega
    have hg : k[i]? = some k[i] := List.getElem?_eq_getElem hlt
    have hany : ((k.take (i + 1)).any fun x => x == key1 v.number) = (((k.take i).any fun x => x == key1 v.number) || k[i] == key1 v.number) := by
      rw [List.take_add_one, hg, List.any_append]
      simp
    rw [w64 (by omega) (by omega)]
    refine bif_b (fun ht => ?_) (fun hf => rd_u (hk.new hn1) hg rfl rfl fun bb o hc => ⟨_, hc _ (Keep.refl _ _), ?_⟩)
    · exact ⟨k.length - (i + 1), by omega, i + 1, _, _, rfl, by omega, rfl, rfl, by rw [hany, ← hoo, ht]; rfl⟩
    · exact ⟨k.length - (i + 1), by omega, i + 1, _, _, rfl, by omega, rfl, rfl, by rw [hany, ← hoo, hf]; rfl⟩
  have htk : k.take i = k := List.take_of_length_le (by omega)
  rw [htk] at hoo
  subst hoo
  rw [bodegaref9_Status_aft1_vc]
  clear hq hi htk
  have hkey0 : ¬ (0 = key1 v.number) := by unfold key1; omega
  -- the members
  refine loop_rule mix (fun m env z => ∃ (i : Nat) (jj : List Value), m = v.mem.length - i ∧ i ≤ v.mem.length ∧ env = bodegaref9_Status_env2 a1 b.length c1 a2 k.length c2 ⟨b1, 0, none⟩ (key1 v.number) (k.any fun x => x == key1 v.number) ((v.mem.take i).all (openM k (key1 v.number))) ((v.mem.take i).all (hereM b)) i jj ∧ New u z) v.mem.length
    ⟨0, _, by omega, by omega, rfl, Keep.refl _ _⟩ ?_
  rintro m env z ⟨i, jj, rfl, hi, rfl, hnz⟩
  have hnz0 := hn1.new hnz
  rw [bodegaref9_Status_loop2_body]
  refine ⟨_, _, _, (New.blk hnz hz).cell (i := 1) rfl, bif_dec (fun hq => ?_) (fun hq => ?_)⟩
  · have hlt : i < v.mem.length := by omega
    have hg : v.mem[i]? = some v.mem[i] := List.getElem?_eq_getElem hlt
    refine ⟨_, _, _, (New.blk hnz hz).cell (i := 1) rfl, ?_⟩
    refine rd_rec (cells := ApiMemberR.cells) ApiMemberR.len (by omega) (h.rd.new hnz0) hg rfl hlen fun bb o hc _ => ApiMemberR.mk_ex v.mem[i] ⟨hc, ?_⟩
    refine box_k (vs := v.mem[i].cells) rfl (ApiMemberR.single _) fun b2 z2 hb2 hz2 hn2 => ?_
    rintro z3 hz3'
    have hn3 : New z2 z3 := by rw [hz3']; exact new_drew _
    clear hz3'
    have hz3 := New.blk hn3 hz2
    have hn03 := (hnz0.new hn2).new hn3
    have hbm := hbt _ (List.getElem_mem hlt)
    refine ⟨fun y => New z3 y, Keep.refl _ _, ?_⟩
    have hopen : (v.mem.take (i + 1)).all (openM k (key1 v.number)) = ((v.mem.take i).all (openM k (key1 v.number)) && openM k (key1 v.number) v.mem[i]) := by
      rw [List.take_add_one, hg, List.all_append]; simp
    have hhere : (v.mem.take (i + 1)).all (hereM b) = ((v.mem.take i).all (hereM b) && hereM b v.mem[i]) := by
      rw [List.take_add_one, hg, List.all_append]; simp
    have go : ∀ (ov hv : Bool) (jj : List Value), ov = ((v.mem.take i).all (openM k (key1 v.number)) && openM k (key1 v.number) v.mem[i]) → hv = ((v.mem.take i).all (hereM b) && hereM b v.mem[i]) →
        ∃ m', m' < v.mem.length - i ∧ ∃ (i' : Nat) (jj' : List Value), m' = v.mem.length - i' ∧ i' ≤ v.mem.length ∧ bodegaref9_Status_env2 a1 b.length c1 a2 k.length c2 ⟨b1, 0, none⟩ (key1 v.number) (k.any fun x => x == key1 v.number) ov hv (IntKind.i64.wrap ((i : Int) + 1)) jj = bodegaref9_Status_env2 a1 b.length c1 a2 k.length c2 ⟨b1, 0, none⟩ (key1 v.number) (k.any fun x => x == key1 v.number) ((v.mem.take i').all (openM k (key1 v.number))) ((v.mem.take i').all (hereM b)) i' jj' ∧ New u z3 := by
      rintro ov hv jj ho hh
      rw [w64 (by omega) (by omega)]
      refine ⟨v.mem.length - (i + 1), by omega, i + 1, jj, rfl, by omega, ?_, (hnz.new hn2).new hn3⟩
      rw [hopen, hhere, ho, hh]
      rfl
    have hcS : ∀ y, New z3 y → y.cell? ⟨b2, 0, none⟩ = some (.int .i64 v.mem[i].Node) := fun y hy => (New.blk hy hz3).cell (i := 0) rfl
    refine bif_b (fun hs12 => ?_) (fun hs12 => ?_)
    · refine ⟨_, hcS, bif_dec (fun hN0 => ⟨_, hcS, bif_dec (fun hN1 => ⟨_, hcS, ?_⟩) (fun hN1 => ?_)⟩) (fun hN0 => ?_)⟩
      · obtain ⟨x, hx, hax⟩ := atN_in (l := b) hN0 hN1
        refine rd_i (hb.new hn03) hx (by have : 0 ≤ v.mem[i].Node := hN0; omega) rfl fun bb1 o1 hcx => ⟨_, fun y hy => hcx y hy, _, fun y hy => (New.blk hy hz3).cell (i := 1) rfl, ?_⟩
        have hhv : (x == v.mem[i].Boot) = ((v.mem.take i).all (hereM b) && hereM b v.mem[i]) := by rw [hs12, Bool.true_and]; unfold hereM; rw [hax]; exact beq_dec _ _
        refine bif_b (fun hs11 => ?_) (fun hs11 => go false _ _ (by rw [hs11]; rfl) hhv)
        · have hcK := hz3.cell (i := 0) (v := .int .i64 v.mem[i].Node) rfl
          refine ⟨_, hcK, bif_dec (fun hK0 => ⟨_, hcK, bif_dec (fun hK1 => ⟨_, hcK, ?_⟩) (fun hK1 => ?_)⟩) (fun hK0 => ?_)⟩
          · obtain ⟨y, hy, hay⟩ := atN_in (l := k) hK0 hK1
            refine rd_u (hk.new hn03) hy (by have : 0 ≤ v.mem[i].Node := hK0; omega) rfl fun bb2 o2 hcy => ⟨_, hcy _ (Keep.refl _ _), ?_⟩
            exact go _ _ _ (by rw [hs11]; unfold openM; rw [hay, Bool.true_and]; exact beq_dec _ _) hhv
          · exact go false _ _ (by rw [hs11]; unfold openM; rw [atN_out (fun e => hK1 e.2), decide_eq_false hkey0]; rfl) hhv
          · exact go false _ _ (by rw [hs11]; unfold openM; rw [atN_out (fun e => hK0 e.1), decide_eq_false hkey0]; rfl) hhv
      · have hhv : false = ((v.mem.take i).all (hereM b) && hereM b v.mem[i]) := by rw [hs12, Bool.true_and]; unfold hereM; rw [atN_out (fun e => hN1 e.2)]; exact (decide_eq_false (by omega)).symm
        refine bif_b (fun hs11 => ?_) (fun hs11 => go false false _ (by rw [hs11]; rfl) hhv)
        · have hcK := hz3.cell (i := 0) (v := .int .i64 v.mem[i].Node) rfl
          refine ⟨_, hcK, bif_dec (fun hK0 => ⟨_, hcK, bif_dec (fun hK1 => ⟨_, hcK, ?_⟩) (fun hK1 => ?_)⟩) (fun hK0 => ?_)⟩
          · obtain ⟨y, hy, hay⟩ := atN_in (l := k) hK0 hK1
            refine rd_u (hk.new hn03) hy (by have : 0 ≤ v.mem[i].Node := hK0; omega) rfl fun bb2 o2 hcy => ⟨_, hcy _ (Keep.refl _ _), ?_⟩
            exact go _ false _ (by rw [hs11]; unfold openM; rw [hay, Bool.true_and]; exact beq_dec _ _) hhv
          · exact go false false _ (by rw [hs11]; unfold openM; rw [atN_out (fun e => hK1 e.2), decide_eq_false hkey0]; rfl) hhv
          · exact go false false _ (by rw [hs11]; unfold openM; rw [atN_out (fun e => hK0 e.1), decide_eq_false hkey0]; rfl) hhv
      · have hhv : false = ((v.mem.take i).all (hereM b) && hereM b v.mem[i]) := by rw [hs12, Bool.true_and]; unfold hereM; rw [atN_out (fun e => hN0 e.1)]; exact (decide_eq_false (by omega)).symm
        refine bif_b (fun hs11 => ?_) (fun hs11 => go false false _ (by rw [hs11]; rfl) hhv)
        · have hcK := hz3.cell (i := 0) (v := .int .i64 v.mem[i].Node) rfl
          refine ⟨_, hcK, bif_dec (fun hK0 => ⟨_, hcK, bif_dec (fun hK1 => ⟨_, hcK, ?_⟩) (fun hK1 => ?_)⟩) (fun hK0 => ?_)⟩
          · obtain ⟨y, hy, hay⟩ := atN_in (l := k) hK0 hK1
            refine rd_u (hk.new hn03) hy (by have : 0 ≤ v.mem[i].Node := hK0; omega) rfl fun bb2 o2 hcy => ⟨_, hcy _ (Keep.refl _ _), ?_⟩
            exact go _ false _ (by rw [hs11]; unfold openM; rw [hay, Bool.true_and]; exact beq_dec _ _) hhv
          · exact go false false _ (by rw [hs11]; unfold openM; rw [atN_out (fun e => hK1 e.2), decide_eq_false hkey0]; rfl) hhv
          · exact go false false _ (by rw [hs11]; unfold openM; rw [atN_out (fun e => hK0 e.1), decide_eq_false hkey0]; rfl) hhv
    · have hhv : false = ((v.mem.take i).all (hereM b) && hereM b v.mem[i]) := by rw [hs12]; rfl
      refine bif_b (fun hs11 => ?_) (fun hs11 => go false false _ (by rw [hs11]; rfl) hhv)
      · have hcK := hz3.cell (i := 0) (v := .int .i64 v.mem[i].Node) rfl
        refine ⟨_, hcK, bif_dec (fun hK0 => ⟨_, hcK, bif_dec (fun hK1 => ⟨_, hcK, ?_⟩) (fun hK1 => ?_)⟩) (fun hK0 => ?_)⟩
        · obtain ⟨y, hy, hay⟩ := atN_in (l := k) hK0 hK1
          refine rd_u (hk.new hn03) hy (by have : 0 ≤ v.mem[i].Node := hK0; omega) rfl fun bb2 o2 hcy => ⟨_, hcy _ (Keep.refl _ _), ?_⟩
          exact go _ false _ (by rw [hs11]; unfold openM; rw [hay, Bool.true_and]; exact beq_dec _ _) hhv
        · exact go false false _ (by rw [hs11]; unfold openM; rw [atN_out (fun e => hK1 e.2), decide_eq_false hkey0]; rfl) hhv
        · exact go false false _ (by rw [hs11]; unfold openM; rw [atN_out (fun e => hK0 e.1), decide_eq_false hkey0]; rfl) hhv
  · rw [bodegaref9_Status_aft2_vc]
    have htk : v.mem.take i = v.mem := List.take_of_length_le (by omega)
    rw [htk]
    unfold statusM
    refine bif_b (fun h1 => bif_b (fun h2 => ⟨?_, hnz0⟩) (fun h2 => bif_t h1 ⟨?_, hnz0⟩)) (fun h1 => bif_f h1 ⟨?_, hnz0⟩)
    · rw [if_pos h1, if_pos h2]; rfl
    · rw [if_pos h1, if_neg (by rw [h2]; simp)]; rfl
    · rw [if_neg (by rw [h1]; simp)]; rfl
end Go.Proofs.YtihfgcmmljnhnaaGreat
