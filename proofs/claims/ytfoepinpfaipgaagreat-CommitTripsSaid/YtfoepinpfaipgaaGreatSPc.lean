/- A summary of the function that collects the pieces of a verb, for the deterministic semantics. -/
import Derived.Test.YtfoepinpfaipgaaGreatPcs
import Derived.Test.YtfoepinpfaipgaaGreatMpC
set_option linter.unusedVariables false
namespace Go.Mx
open Go.Eng Go.Proofs Go.Proofs.YtfoepinpfaipgaaGreat

noncomputable def pcs (f : Nat) : Nat → Nat → (List C → Prop) → Prop := @Nat.rec (fun _ => Nat → Nat → (List C → Prop) → Prop) (fun _ _ _ => False) (fun _ ih at_ left K => iff (Nat.beq left 0) (K []) (fN (minN left (Nat.sub 8 (Nat.mod at_ 8))) fun n => fN (Nat.add at_ n) fun a' => fN (Nat.sub left n) fun l' => ih a' l' fun vs => K (.i 3 (.ofNat at_) :: .i 3 (.ofNat n) :: vs))) f

def pcL (l : List (Int × Int)) : List C := l.flatMap fun p => [.i 3 p.1, .i 3 p.2]

theorem minN_min (a b : Nat) : minN a b = min a b := by
  unfold minN
  cases h : Nat.ble a b with
  | true => have := ble_le h; show a = _; omega
  | false => have := not_ble h; show b = _; omega

theorem pcs_iff : ∀ (f a l g : Nat) (K : List C → Prop), l ≤ g → pcs f a l K → K (pcL (piecesFrom g a l))
  | 0, _, _, _, _, _, h => h.elim
  | f + 1, a, l, g, K, hg, h => by
    have h : iff (Nat.beq l 0) (K []) (fN (minN l (Nat.sub 8 (Nat.mod a 8))) fun n => fN (Nat.add a n) fun a' => fN (Nat.sub l n) fun l' => pcs f a' l' fun vs => K (.i 3 (.ofNat a) :: .i 3 (.ofNat n) :: vs)) := h
    rcases iff_c h with ⟨h1, h2⟩ | ⟨h1, h2⟩
    · have := beq_eq h1
      subst this
      have : piecesFrom g (a : Int) ((0 : Nat) : Int) = [] := by cases g <;> simp [piecesFrom]
      rw [this]
      exact h2
    · have hl := not_beq h1
      have h3 := fN_iff.1 h2
      have h3 := fN_iff.1 h3
      have h3 := fN_iff.1 h3
      rw [minN_min] at h3
      obtain ⟨g, rfl⟩ : ∃ g', g = g' + 1 := ⟨g - 1, by omega⟩
      have hm : (8 : Nat) - a % 8 = 8 - a % 8 := rfl
      have e : Nat.sub 8 (Nat.mod a 8) = 8 - a % 8 := rfl
      rw [e] at h3
      generalize hn : min l (8 - a % 8) = n at h3
      have hn1 : 1 ≤ n ∧ n ≤ l := by omega
      have h4 := pcs_iff f (a + n) (l - n) g _ (by omega) h3
      rw [piecesFrom, if_neg (by omega)]
      have e1 : (if 8 - (a : Int) % 8 < (l : Int) then 8 - (a : Int) % 8 else (l : Int)) = (n : Int) := by split <;> omega
      simp only [e1]
      have e2 : ((a : Int) + (n : Int)) = ((a + n : Nat) : Int) := by omega
      have e3 : ((l : Int) - (n : Int)) = ((l - n : Nat) : Int) := by omega
      rw [e2, e3]
      exact h4

def lenW (w : C) : Nat := match w with
  | .s _ _ len _ _ => len
  | _ => 0
noncomputable def cntP (kd n : Nat) (w : C) : Nat := @Bool.rec (fun _ => Nat) (@Bool.rec (fun _ => Nat) (@Bool.rec (fun _ => Nat) (@Bool.rec (fun _ => Nat) 0 1 (Nat.beq kd 4)) 1 (Nat.beq kd 3)) (lenW w) (Nat.beq kd 2)) n (Nat.beq kd 1)

noncomputable def okW (w : C) : Bool := match w with
  | .ns => true
  | .es => true
  | .s .. => true
  | _ => false

noncomputable def sumPieces (args : List V) (H : Hp) (K : KV) : Prop :=
  one args fun v => onA v fun dp d o n => cellsK dp d n o fun l => match l with
  | [.i 3 (.ofNat kd), .i 3 nd, .i 3 (.ofNat a), .i 3 (.ofNat n), .i 7 old, .i 7 new, w, .i 7 key, .i 3 bt] =>
    iff (okW w) (fN (cntP kd n w) fun c => iff (Nat.ble 1 c) (iff (Nat.ble c 1000000) (iff (Nat.ble a 1000000) (pcs 300 a c fun l => fN l.length fun n => obL n l fun b => fN (Nat.div n 2) fun q => newS H q 2 b K) False) False) False) False
  | _ => False

theorem LR_pcL (m : Mp) : ∀ l : List (Int × Int), LR m (pcL l) (prows l).flatten
  | [] => ⟨rfl, fun i u h => by simp [prows] at h⟩
  | p :: l => by
    obtain ⟨h1, h2⟩ := LR_pcL m l
    refine ⟨by simpa [pcL, prows] using h1, fun i u h => ?_⟩
    have e : (prows (p :: l)).flatten = .int .i64 p.1 :: .int .i64 p.2 :: (prows l).flatten := rfl
    have e' : pcL (p :: l) = .i 3 p.1 :: .i 3 p.2 :: pcL l := rfl
    rw [e] at h
    rw [e']
    match i, h with
    | 0, h => simp at h; exact ⟨_, rfl, h.symm, rfl⟩
    | 1, h => simp at h; exact ⟨_, rfl, h.symm, rfl⟩
    | i + 2, h => simp at h; exact h2 i u h

theorem pcL_len (l : List (Int × Int)) : (pcL l).length = l.length * 2 := by
  induction l with
  | nil => rfl
  | cons p l ih =>
    have : pcL (p :: l) = .i 3 p.1 :: .i 3 p.2 :: pcL l := rfl
    rw [this]
    simp [ih]
    omega

theorem slice_of {m : Mp} {w : C} {v : Value} (h : okW w = true) (hr : CR m w v) : ∃ a len cap, v = .slice a len cap ∧ lenW w = len := by
  cases w with
  | ns => exact ⟨_, _, _, hr, rfl⟩
  | es => obtain ⟨a, cap, h⟩ := hr; exact ⟨_, _, _, h, rfl⟩
  | s o off len sz c => obtain ⟨b, n, cap, _, h, _⟩ := hr; exact ⟨_, _, _, h, rfl⟩
  | _ => cases h

theorem sumPieces_ok (w0 : Bs) : SumOk Tryz.prog w0 97 sumPieces := by
  intro args vals m w H K h hS ha
  obtain ⟨x, rfl, h1⟩ := one_iff h
  obtain ⟨dp, d, o, n, rfl, h2⟩ := onA_iff h1
  rw [cellsK_iff] at h2
  match vals, ha with
  | [rv], ⟨hv, _⟩ =>
  obtain ⟨cs, rfl, hl, ht⟩ := hv
  have hget : ∀ i, i < n → ∃ u, cs[i]? = some u ∧ ∃ c, (lcells dp d n o)[i]? = some c ∧ CR m c u := fun i hi => by
    have h1 : i < cs.length := by omega
    exact ⟨cs[i], List.getElem?_eq_getElem h1, _, get_lcells dp d n o i hi, (ht.2 i _ (List.getElem?_eq_getElem h1)).1⟩
  have hln := length_lcells dp d n o
  split at h2
  rotate_left
  · exact h2.elim
  rename_i kd nd a n' old new wd key bt heq
  rw [heq] at hln hget
  have hn9 : n = 9 := by simpa using hln.symm
  subst hn9
  obtain ⟨hw, h3⟩ := iff_t h2
  have h4 := fN_iff.1 h3
  obtain ⟨hc1, h5⟩ := iff_t h4
  obtain ⟨hc2, h6⟩ := iff_t h5
  obtain ⟨ha1, h7⟩ := iff_t h6
  have hc1 := ble_le hc1
  have hc2 := ble_le hc2
  have ha1 := ble_le ha1
  obtain ⟨u0, e0, c0, f0, r0⟩ := hget 0 (by omega)
  obtain ⟨u1, e1, c1, f1, r1⟩ := hget 1 (by omega)
  obtain ⟨u2, e2, c2, f2, r2⟩ := hget 2 (by omega)
  obtain ⟨u3, e3, c3, f3, r3⟩ := hget 3 (by omega)
  obtain ⟨u4, e4, c4, f4, r4⟩ := hget 4 (by omega)
  obtain ⟨u5, e5, c5, f5, r5⟩ := hget 5 (by omega)
  obtain ⟨u6, e6, c6, f6, r6⟩ := hget 6 (by omega)
  obtain ⟨u7, e7, c7, f7, r7⟩ := hget 7 (by omega)
  obtain ⟨u8, e8, c8, f8, r8⟩ := hget 8 (by omega)
  simp only [List.getElem?_cons_zero, List.getElem?_cons_succ, Option.some.injEq] at f0 f1 f2 f3 f4 f5 f6 f7 f8
  subst f0 f1 f2 f3 f4 f5 f6 f7 f8
  obtain ⟨ad, len, cap, rfl, hlen⟩ := slice_of hw r6
  have hcs : cs = [u0, u1, u2, u3, u4, u5, .slice ad len cap, u7, u8] := by
    match cs, hl with
    | [a0, a1, a2, a3, a4, a5, a6, a7, a8], _ => simp_all
  have q0 : u0 = .int .i64 (kd : Int) := r0
  have q1 : u1 = .int .i64 nd := r1
  have q2 : u2 = .int .i64 (a : Int) := r2
  have q3 : u3 = .int .i64 (n' : Int) := r3
  have q4 : u4 = .int .u64 old := r4
  have q5 : u5 = .int .u64 new := r5
  have q7 : u7 = .int .u64 key := r7
  have q8 : u8 = .int .i64 bt := r8
  subst q0 q1 q2 q3 q4 q5 q7 q8 hcs
  let v : VerbV := ⟨(kd : Int), nd, (a : Int), (n' : Int), old, new, ad, len, cap, key, bt⟩
  have hcnt : v.count = ((cntP kd n' wd : Nat) : Int) := by
    show (if (kd : Int) = 1 then (n' : Int) else if (kd : Int) = 2 then (len : Int) else if (kd : Int) = 3 ∨ (kd : Int) = 4 then 1 else 0) = _
    unfold cntP
    cases h1 : Nat.beq kd 1 with
    | true => rw [if_pos (by have := beq_eq h1; omega)]
    | false =>
      rw [if_neg (by have := not_beq h1; omega)]
      cases h2 : Nat.beq kd 2 with
      | true => rw [if_pos (by have := beq_eq h2; omega)]; exact congrArg _ hlen.symm
      | false =>
        rw [if_neg (by have := not_beq h2; omega)]
        cases h3 : Nat.beq kd 3 with
        | true => rw [if_pos (by have := beq_eq h3; omega)]; rfl
        | false =>
          cases h4 : Nat.beq kd 4 with
          | true => rw [if_pos (by have := beq_eq h4; omega)]; rfl
          | false => rw [if_neg (by have := not_beq h3; have := not_beq h4; omega)]; rfl
  have hp := pcs_iff _ _ _ v.count.toNat _ (by omega) h7
  have hpe : piecesFrom v.count.toNat (a : Int) ((cntP kd n' wd : Nat) : Int) = v.pieces := by
    show _ = piecesFrom v.count.toNat (a : Int) v.count
    rw [hcnt]
  rw [hpe] at hp
  have h8 := fN_iff.1 hp
  obtain ⟨hle, h9⟩ := obL_iff h8
  have h10 := fN_iff.1 h9
  have e10 : Nat.div (pcL v.pieces).length 2 = v.pieces.length := by
    rw [pcL_len]
    show v.pieces.length * 2 / 2 = _
    omega
  rw [e10] at h10
  obtain ⟨hnx, h11⟩ := newK_iff h10
  refine (Pieces_o w v (by show (0 : Int) ≤ (a : Int); omega) (by show (a : Int) ≤ 1000000; omega) (by omega) (by omega)).mono ?_
  rintro e w' ⟨x, he, ad', cap', rfl, ho, hnew, hfr⟩
  refine ⟨_, he, ?_⟩
  have hne : v.pieces ≠ [] := piecesFrom_ne _ _ _ (by omega) (by omega)
  have hpos : 0 < v.pieces.length := List.length_pos_iff.2 hne
  rcases ho.2 with ⟨_, h0, _⟩ | ⟨g, cur, rfl, hblk, hnc, hcm, hcur, htake⟩
  · omega
  have hg : w.heap.size ≤ g := hfr g ⟨0, rfl⟩
  have hfl : (prows v.pieces).flatten.length = (pcL v.pieces).length := (LR_pcL m v.pieces).1.symm
  have hadd := hS.hr.add (b := g) (N := cap' * 2) (n := (pcL v.pieces).length) (cs := cur) (T := TPc) hnx (Keep.of_new hnew) (.inl (by have := hS.hr.size; omega)) hblk (fun h => absurd h (by omega)) hcur (by rw [pcL_len]; omega) (dpN_le hle)
    (by
      have : cur.take (pcL v.pieces).length = (prows v.pieces).flatten := by rw [pcL_len]; exact htake
      rw [this]
      exact lputs_rel (LR_pcL m v.pieces) hfl hle)
    (fun o wr n dp d N hg' hm => by have := hS.hr.bl hm; omega)
  refine ⟨_, .c (.s H.next 0 v.pieces.length 2 none), _, mset_le (hS.hr.unm _ (Nat.le_refl _)), ⟨g, cap' * 2, cap', ?_, rfl, hnc, ?_⟩, ⟨hadd, hS.new.trans (Keep.of_new hnew) fun i hi hf => hf⟩, add_gh hnx, h11⟩
  · unfold mset; rw [if_pos rfl]
  · show 0 + cap' * 2 = _; omega
end Go.Mx
