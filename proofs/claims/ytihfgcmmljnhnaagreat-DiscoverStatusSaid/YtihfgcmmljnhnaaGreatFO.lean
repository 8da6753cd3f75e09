/- Jobs of package fetch made of raw numbers. -/
import Derived.Test.YtihfgcmmljnhnaaGreatFV
set_option linter.unusedVariables false
namespace Go.Proofs.YtihfgcmmljnhnaaGreat
open Go.Eng

/-- A record is handed out. -/
theorem out_k {ρ : Type} {cells : ρ → List Value} {ex : (ρ → Prop) → Prop} (mk : ∀ (K : ρ → Prop) r, K r → ex K) (hs : ∀ r, ∀ u ∈ cells r, single u = true) {u : World} {b1 b2 : Nat} {r : ρ} {zs : List Value} {T : TypeId} (h1 : Blk u b1 zs T) (hl : zs.length = (cells r).length) (h2 : Blk u b2 (cells r) T) {K : ρ → World → Prop} (hk : ∀ w', Keep (fun k => k = b1) u w' → K r w') :
    ex fun r => cellsAt u ⟨b2, 0, none⟩ 0 (cells r) ∧ wrAt u ⟨b1, 0, none⟩ 0 (cells r) ∧ ∀ w4, w4 = puts u ⟨b1, 0, none⟩ 0 (cells r) → ex fun res => cellsAt w4 ⟨b1, 0, none⟩ 0 (cells res) ∧ w4 = w4 ∧ K res w4 := by
  refine mk _ r ⟨cellsAt_blk h2 (by simp), wrAt_blk h1 (by rw [hl]; omega) (hs r), fun w4 hw => ?_⟩
  have hk4 : Keep (fun k => k = b1) u w4 := by rw [hw]; exact keep_puts _ _ _ _ _
  have hz : Blk w4 b1 (cells r) T := by
    rw [hw]
    have := h1.puts (o := 0) (i := 0) (vs := cells r)
    rw [Nat.add_zero, splice_all hl.symm] at this
    exact this
  exact mk _ r ⟨cellsAt_blk hz (by simp), rfl, hk w4 hk4⟩

theorem pushI_k {u : World} {a : Option Addr} {n cap : Nat} {L : List Int} (ho : Owns u 3 1 a n cap (is L)) {x : Int} (hb1 : n ≤ 1000000) {K : Nat → Option Addr → Nat → Nat → World → Prop}
    (hk : ∀ b ap cap' w3, b = u.heap.size → Owns w3 3 1 ap (n + 1) cap' (is (L ++ [x])) → Keep (isB a) u w3 → (∀ k, isB ap k → isB a k ∨ u.heap.size ≤ k) → K b ap (n + 1) cap' w3) :
    ∀ b1 w2, b1 = u.heap.size → w2 = u.alloc (.cells #[.int .i64 x] 3) → ∃ (ap : Option Addr) (ap_len ap_cap : Nat), ∃ w3, (Builtin.append_ #[22, 22] 22 #[(.slice a n cap), (.slice (some ⟨b1, 0, none⟩) 1 1)]).run Tryz.prog w2 = .ok (.slice ap ap_len ap_cap) w3 ∧ K b1 ap ap_len ap_cap w3 := by
  obtain ⟨inf, hi, hz, hsz, hby⟩ := infoB (T := 3) (z := .int .i64 0) (n := 1) (m := 8) (by kernel_rfl)
  rw [← hsz] at ho
  refine push_k (vs := [.int .i64 x]) Tryz.underlying22 hi hz (by rw [hsz]; rfl) (by omega) ho (by rw [hsz]; rfl) (by intro v hv; simp at hv; subst hv; rfl) (by omega) (by omega) ?_
  intro b ap cap' w3 h1 h2
  have e : is L ++ [Value.int .i64 x] = is (L ++ [x]) := by simp [is]
  rw [hsz, e] at h2
  exact hk b ap cap' w3 h1 h2

theorem owns_some {w : World} {e sz n cap : Nat} {a : Option Addr} {xs : List Value} (h : Owns w e sz a n cap xs) (hn : 0 < n) : ∃ g cur, a = some ⟨g, 0, none⟩ ∧ Blk w g cur e ∧ n * sz ≤ cur.length := by
  rcases h.2 with ⟨_, e, _⟩ | ⟨g, cur, rfl, hg, hnc, _, hcl, _⟩
  · omega
  · exact ⟨g, cur, rfl, hg, by rw [hcl]; exact Nat.mul_le_mul_right _ hnc⟩

def bs (l : List Bool) : List Value := l.map .bool

structure FRaw (w : World) (r : Bodegalaw16RawR) (l : List Int) : Prop where
  a : I64 r.Total
  b : I64 r.Mask
  c : I64 r.Spoil
  d : I64 r.At
  rd : Rd w r.Lines (is l)
  len : r.Lines_l = l.length
  few : l.length ≤ 10
  i64 : ∀ x ∈ l, I64 x

/-- What the job made of raw numbers holds while it is made. -/
structure FOf (w u : World) (b1 b2 b3 b4 : Nat) (p : Bodegalaw16RawR) (l : List Int) (q : FetchJobR) (v : Vw) (L : List Int) : Prop where
  new : New w u
  h1 : Blk u b1 p.cells 73
  h2 : Blk u b2 (FetchJobR.cells ⟨0, ⟨0, none, 0, 0⟩, none, 0, 0⟩) 71
  h3 : Blk u b3 q.cells 71
  lo : w.heap.size ≤ b1 ∧ b1 < b2 ∧ b2 < b3 ∧ b3 < b4
  view : ViewAt (fun k => k = b1 ∨ k = b2 ∨ k = b3 ∨ b4 ≤ k) u q.View v
  ne : v.mem ≠ []
  own : Owns u 3 1 q.Lines q.Lines_l q.Lines_c (is L)
  off : ∀ k, isB q.Lines k → b4 < k
  len : L.length ≤ 16

theorem FOf.keep {w u u' : World} {b1 b2 b3 b4 : Nat} {p : Bodegalaw16RawR} {l L : List Int} {q : FetchJobR} {v : Vw} (h : FOf w u b1 b2 b3 b4 p l q v L) {M : Nat → Prop} (hk : Keep M u u') (hM : ∀ k, M k → b4 ≤ k) (ho : ∀ k, isB q.Lines k → ¬ M k) : FOf w u' b1 b2 b3 b4 p l q v L := by
  have := h.lo
  exact ⟨h.new.trans hk fun k hlt hm => by have := hM k hm; omega, hk.blk h.h1 fun e => by have := hM _ e; omega, hk.blk h.h2 fun e => by have := hM _ e; omega, hk.blk h.h3 fun e => by have := hM _ e; omega,
    h.lo, h.view.keep hk fun k hn => .inr (.inr (.inr (hM k hn))), h.ne, Owns.keep hk h.own ho, h.off, h.len⟩

theorem wrap_I64 (x : Int) : I64 (IntKind.i64.wrap x) := by
  unfold I64
  simp only [IntKind.wrap, IntKind.bits, IntKind.signed]
  simp
  omega

theorem bs_set (B : List Bool) (i : Nat) (x : Bool) : (bs B).set i (.bool x) = bs (B.set i x) := by simp [bs]

theorem FRaw.new {w w' : World} {r : Bodegalaw16RawR} {l : List Int} (h : FRaw w r l) (hn : New w w') : FRaw w' r l := ⟨h.a, h.b, h.c, h.d, h.rd.new hn, h.len, h.few, h.i64⟩

set_option maxHeartbeats 1000000 in
set_option maxRecDepth 100000 in
/-- A job made of raw numbers. -/
theorem FOf_c (w : World) {p : Bodegalaw16RawR} {l : List Int} (hp : FRaw w p l) : Does 31 [p.val, .int .i64 3] w fun x w' => ∃ r j, x = FetchJobR.val r ∧ FJobAt w' r j ∧ New w w' := by
  refine does Tryz.func31 ?_
  rw [bodegalaw16_of_vc]
  rintro b1 w1 hb1 hw1
  obtain ⟨hz1, hn1⟩ := box_new hb1 hw1
  have hz1 : Blk w1 b1 p.cells 73 := hz1
  clear hw1
  rintro b2 w2 hb2 hw2
  obtain ⟨hz2, hn2⟩ := box_new hb2 hw2
  have hz2 : Blk w2 b2 (FetchJobR.cells ⟨0, ⟨0, none, 0, 0⟩, none, 0, 0⟩) 71 := hz2
  clear hw2
  have hz12 := New.blk hn2 hz1
  have hl1 := hz1.lt
  have hl2 := hz2.lt
  have hs1 := hn1.size
  refine ⟨_, hz12.cell (i := 0) rfl, ?_⟩
  refine at_call (Lines_c w2 hp.a) ?_
  rintro x w3 ⟨n, rfl, hn98, hn104, rfl⟩
  refine ⟨_, rfl, ?_⟩
  refine at_call (Start_c w3 (n := 3) (by omega) (by omega)) ?_
  rintro x w4 ⟨rs, vs, rfl, hvs, hn4, hgs, _⟩
  refine ApiViewR.mk_ex rs ⟨rfl, ?_⟩
  refine box_k (vs := FetchJobR.cells ⟨n, rs, none, 0, 0⟩) rfl (FetchJobR.single _) fun b3 w6 hb3 hz3 hn6 => ?_
  have hn16 := (hn1.new hn2).new (hn4.new hn6)
  have hz16 := New.blk (hn4.new hn6) hz12
  have hz26 := New.blk (hn4.new hn6) hz2
  have hs4 := hn4.size
  have hl3 := hz3.lt
  have hl16 := hz16.lt
  refine ⟨_, hz16.cell (i := 1) rfl, ?_⟩
  refine at_call (Pick_c w6 p.Mask 3 hp.b (by omega)) ?_
  rintro x w7 ⟨rfl, rfl⟩
  refine ⟨_, rfl, ?_⟩
  -- the rest
  have rest : ∀ (u : World) (b4 : Nat) (rv : ApiViewR) (v : Vw) (jj : List Value), b4 < u.heap.size → FOf w u b1 b2 b3 b4 p l ⟨n, rv, none, 0, 0⟩ v [] → Blk u b4 (bs (List.replicate 16 false)) 140 →
      codeW Tryz.prog (.loop (sub (bodyOf Tryz.f31) [1, 1, 1, 1, 0, 1, 0, 0])) (bodegalaw16_of_env1 ⟨b1, 0, none⟩ ⟨b2, 0, none⟩ ⟨b3, 0, none⟩ ⟨b4, 0, none⟩ 0 jj) (blockQ 0 (seqQ (fun env z => W Tryz.prog (sub (bodyOf Tryz.f31) [1, 1, 1, 1, 1]) env (retQ Tryz.prog Tryz.f31 fun x w' => ∃ r j, x = FetchJobR.val r ∧ FJobAt w' r j ∧ New w w') z) (retQ Tryz.prog Tryz.f31 fun x w' => ∃ r j, x = FetchJobR.val r ∧ FJobAt w' r j ∧ New w w'))) u := by
    intro u b4 rv v jj hb4 hF hB
    have hlo := hF.lo
    refine loop_rule mix (fun m env z => ∃ (i : Nat) (B : List Bool) (jj : List Value), m = l.length - i ∧ i ≤ l.length ∧ env = bodegalaw16_of_env1 ⟨b1, 0, none⟩ ⟨b2, 0, none⟩ ⟨b3, 0, none⟩ ⟨b4, 0, none⟩ i jj ∧ FOf w z b1 b2 b3 b4 p l ⟨n, rv, none, 0, 0⟩ v [] ∧ Blk z b4 (bs B) 140 ∧ B.length = 16 ∧ b4 < z.heap.size) l.length
      ⟨0, _, _, by omega, by omega, rfl, hF, hB, by simp, hb4⟩ ?_
    clear hF hB hb4 jj u
    rintro m env u ⟨i, B, jj, rfl, hi, rfl, hF, hB, hBl, hb4⟩
    rw [bodegalaw16_of_loop1_body]
    refine ⟨_, _, _, hF.h1.cell (i := 4) rfl, bif_dec (fun hq => ?_) (fun hq => ?_)⟩
    · have hlt : i < l.length := by have := hp.len; omega
      have hg : l[i]? = some l[i] := List.getElem?_eq_getElem hlt
      have hfew := hp.few
      rintro u1 hu1
      have hn1' : New u u1 := by rw [hu1]; exact new_drew _
      clear hu1
      have hF1 := hF.keep hn1' (fun k h => h.elim) (fun k _ h => h)
      have hB1 := New.blk hn1' hB
      refine ⟨fun y => New u1 y, Keep.refl _ _, _, _, _, fun y hy => (New.blk hy hF1.h1).cell (i := 4) rfl, ?_⟩
      refine rd_i (hp.new hF1.new).rd hg rfl hp.len fun b o hc => ⟨_, fun y hy => hc y hy, _, fun y hy => (New.blk hy hF1.h3).cell (i := 0) rfl, ?_⟩
      rw [w64 (x := n - 96) (by omega) (by omega)]
      refine at_call (Pick_c u1 l[i] (n - 96) (hp.i64 _ (List.getElem_mem hlt)) (by omega)) ?_
      rintro x u2 ⟨rfl, rfl⟩
      have hpk := pick_in (x := l[i]) (n := n - 96) (by omega)
      generalize (if n - 96 < 1 then 0 else l[i] % (n - 96)) = k at hpk
      refine ⟨_, rfl, Keep.refl _ _, idxA_mk (by omega) (by omega) ?_⟩
      refine setv_k (b := b4) hB1 (o := 0 + k.toNat * 1) (by simp [bs, hBl]; omega) fun u3 hB3 hk3 => ?_
      rw [bs_set] at hB3
      rw [w64 (by omega) (by omega)]
      refine ⟨l.length - (i + 1), by omega, i + 1, _, _, rfl, by omega, rfl, hF1.keep hk3 (fun k h => by omega) (fun k hk => by obtain ⟨o, ho⟩ := hk; cases ho), hB3, by simp [hBl], ?_⟩
      have := hn1'.size; have := hk3.size; omega
    · rw [bodegalaw16_of_aft1_vc]
      -- the lines
      refine loop_rule mix (fun m env z => ∃ (i : Nat) (a : Option Addr) (nn c : Nat) (L : List Int) (jj : List Value), m = 16 - i ∧ i ≤ 16 ∧ env = bodegalaw16_of_env2 ⟨b1, 0, none⟩ ⟨b2, 0, none⟩ ⟨b3, 0, none⟩ ⟨b4, 0, none⟩ i jj ∧ FOf w z b1 b2 b3 b4 p l ⟨n, rv, a, nn, c⟩ v L ∧ Blk z b4 (bs B) 140 ∧ b4 < z.heap.size ∧ L.length ≤ i ∧ nn = L.length) 16
        ⟨0, none, 0, 0, [], _, by omega, by omega, rfl, hF, hB, hb4, by simp, rfl⟩ ?_
      clear hF hB hb4 jj hq hi
      rintro m env u ⟨i, a, nn, c, L, jj, rfl, hi, rfl, hF, hB, hb4, hLi, rfl⟩
      rw [bodegalaw16_of_loop2_body]
      refine bif_dec (fun hq => ?_) (fun hq => ?_)
      · have hlt : i < B.length := by omega
        have hg : B[i]? = some B[i] := List.getElem?_eq_getElem hlt
        refine idxA_mk (by omega) (by omega) ⟨B[i], ?_, bif_b (fun hx => ⟨_, _, _, hF.h3.cell (i := 3) rfl, ?_⟩) (fun hx => ?_)⟩
        · refine hB.cell ?_
          simp [bs, hg]
        · refine pushI_k (n := L.length) hF.own (by have := hF.len; omega) ?_
          intro b ap cap u3 hb ho3 hk3 hap
          have hF3 := hF.keep hk3 (fun k h => by have := hF.off k h; omega)
          have hoff : ∀ k, isB ap k → b4 < k := fun k hk => by
            rcases hap k hk with h | h
            · exact hF.off k h
            · omega
          have h33 := hk3.blk hF.h3 fun e => by have := hF.off b3 e; omega
          refine setv_k (b := b3) h33 (o := 0 + 3) (by simp [FetchJobR.cells]) fun u4 h34 hk4 => ?_
          have hkk := (hk3.mono (M' := fun k => k = b3 ∨ isB a k) fun _ _ h => .inr h).trans hk4 fun _ _ h => .inl h
          rw [w64 (x := (i : Int) + 1) (by omega) (by omega)]
          refine ⟨16 - (i + 1), by omega, i + 1, ap, L.length + 1, cap, L ++ [IntKind.i64.wrap (96 + (i : Int))], _, rfl, by omega, rfl, ⟨?_, ?_, ?_, h34, hF.lo, ?_, hF.ne, ?_, hoff, by simp; omega⟩, ?_, ?_, by simp; omega, by simp⟩
          · exact hF.new.trans hkk fun k hlt e => by rcases e with e | e; omega; have := hF.off k e; omega
          · exact hkk.blk hF.h1 fun e => by rcases e with e | e; omega; have := hF.off b1 e; omega
          · exact hkk.blk hF.h2 fun e => by rcases e with e | e; omega; have := hF.off b2 e; omega
          · exact hF.view.keep hkk fun k e => by
              rcases e with e | e
              · exact .inr (.inr (.inl e))
              · have := hF.off k e; exact .inr (.inr (.inr (by omega)))
          · exact Owns.keep hk4 ho3 fun k hk e => by have := hoff k hk; omega
          · exact hkk.blk hB fun e => by rcases e with e | e; omega; have := hF.off b4 e; omega
          · have := hkk.size; omega
        · rw [w64 (by omega) (by omega)]
          exact ⟨16 - (i + 1), by omega, i + 1, a, L.length, c, L, _, rfl, by omega, rfl, hF, hB, hb4, by omega, rfl⟩
      · rw [bodegalaw16_of_aft2_vc]
        clear hq hLi hi
        have hLl := hF.len
        have fin : ∀ (q : FetchJobR) (v' : Vw) (L' : List Int) (M : Nat → Prop) (u' w' : World), New w u' → ViewAt M u' q.View v' → M b2 → Owns u' 3 1 q.Lines q.Lines_l q.Lines_c (is L') → (∀ k, isB q.Lines k → k ≠ b2) → L'.length ≤ 16 → Keep (fun k => k = b2) u' w' → ∃ r j, FetchJobR.val q = FetchJobR.val r ∧ FJobAt w' r j ∧ New w w' := by
          intro q v' L' M u' w' hn' hv' hM ho' hf' h16 hk'
          refine ⟨q, ⟨q.Total, v', L'⟩, rfl, ⟨rfl, ⟨M, ?_⟩, ?_, ?_, ?_⟩, hn'.trans hk' fun k hlt e => by omega⟩
          · exact hv'.keep hk' fun k e => e ▸ hM
          · exact (Owns.keep hk' ho' fun k hk e => hf' k hk e).rd
          · have := ho'.1; simp [is] at this; exact this.symm
          · show L'.length ≤ 100000; omega
        have hM2 : (fun k => k = b1 ∨ k = b2 ∨ k = b3 ∨ b4 ≤ k) b2 := .inr (.inl rfl)
        have hof2 : ∀ k, isB a k → k ≠ b2 := fun k hk e => by have := hF.off k hk; omega
        have plain : ∀ w', Keep (fun k => k = b2) u w' → ∃ r j, FetchJobR.val ⟨n, rv, a, L.length, c⟩ = FetchJobR.val r ∧ FJobAt w' r j ∧ New w w' := fun w' hk' =>
          fin ⟨n, rv, a, L.length, c⟩ v L _ u w' hF.new hF.view hM2 hF.own hof2 hLl hk'
        refine ⟨_, hF.h1.cell (i := 3) rfl, _, _, _, hF.h3.cell (i := 3) rfl, ?_⟩
        refine at_call (Pick_c u p.At (if (1 : Int) < (L.length : Nat) then ((L.length : Nat) : Int) else 1) hp.d (by split <;> omega)) ?_
        rintro x u1 ⟨rfl, rfl⟩
        have hpk := pick_in (x := p.At) (n := if (1 : Int) < (L.length : Nat) then (L.length : Nat) else 1) (by split <;> omega)
        generalize (if (if (1 : Int) < (L.length : Nat) then ((L.length : Nat) : Int) else 1) < 1 then 0 else p.At % (if (1 : Int) < (L.length : Nat) then ((L.length : Nat) : Int) else 1)) = k at hpk
        refine ⟨_, rfl, _, hF.h1.cell (i := 2) rfl, ?_⟩
        refine at_call (Pick_c u1 p.Spoil 12 hp.c (by omega)) ?_
        rintro x u2 ⟨rfl, rfl⟩
        generalize (if (12 : Int) < 1 then 0 else p.Spoil % 12) = s
        have out : ∀ {q : FetchJobR} {z : World}, Blk z b2 (FetchJobR.cells ⟨0, ⟨0, none, 0, 0⟩, none, 0, 0⟩) 71 → Blk z b3 q.cells 71 → (∀ w', Keep (fun k => k = b2) z w' → ∃ r j, FetchJobR.val q = FetchJobR.val r ∧ FJobAt w' r j ∧ New w w') → _ := fun {q z} h1 h2 h3 =>
          out_k (cells := FetchJobR.cells) (ex := FetchJobR.ex) (fun K r h => FetchJobR.mk_ex r h) FetchJobR.single (r := q) h1 rfl h2 (K := fun q w' => ∃ r j, FetchJobR.val q = FetchJobR.val r ∧ FJobAt w' r j ∧ New w w') h3
        refine ⟨_, rfl, bif_beq (fun hs => ⟨_, hF.h1.cell (i := 3) rfl, ?_⟩) (fun hs => bif_beq (fun hs1 => ⟨_, _, _, hF.h3.cell (i := 2) rfl, ?_⟩) (fun hs1 => bif_beq (fun hs2 => ⟨_, _, _, hF.h3.cell (i := 3) rfl, bif_dec (fun hl0 => ?_) (fun hl0 => out hF.h2 hF.h3 plain)⟩) (fun hs2 => out hF.h2 hF.h3 plain)))⟩
        · refine at_call (Pick_c u2 p.At 300 hp.d (by omega)) ?_
          rintro x u3 ⟨rfl, rfl⟩
          refine ⟨_, rfl, setv_k (b := b3) hF.h3 (o := 0) (by simp [FetchJobR.cells]) fun u4 h34 hk4 => ?_⟩
          refine out (q := ⟨_, rv, a, L.length, c⟩) (hk4.blk hF.h2 (by omega)) h34 fun w' hk' => ?_
          refine fin _ v L _ u4 w' (hF.new.trans hk4 fun k hlt e => by omega) (hF.view.keep hk4 fun k e => .inr (.inr (.inl e))) hM2 (Owns.keep hk4 hF.own fun k hk e => by have := hF.off k hk; omega) hof2 hLl hk'
        · -- the first member is left out
          have hvl := hF.view.len
          have hvc := hF.view.cap
          have hvs := hF.view.small
          have hmpos : 0 < v.mem.length := List.length_pos_iff.2 hF.ne
          obtain ⟨m0, mt, hmm⟩ : ∃ m0 mt, v.mem = m0 :: mt := by
            cases hm : v.mem with
            | nil => exact absurd hm hF.ne
            | cons m0 mt => exact ⟨m0, mt, rfl⟩
          have hnews : (mrows v.mem).flatten = m0.cells ++ (mrows mt).flatten := by rw [hmm]; rfl
          have hmt : mt.length = v.mem.length - 1 := by rw [hmm]; rfl
          obtain ⟨inf, hinf, hz, hsz, hby⟩ := infoB (T := TMb) (z := .agg #[.int .i64 0, .int .i64 0, .bool false]) (n := 3) (m := 24) (by kernel_rfl)
          refine ⟨by omega, by omega, by omega, by omega, by omega, ?_⟩
          have hrd : Rd u2 (if (rv.Members_c : Int) = 1 then rv.Members else rv.Members.map (·.add ((1 : Int).toNat * 3))) (mrows mt).flatten := by
            by_cases h1 : (rv.Members_c : Int) = 1
            · have : mt = [] := List.eq_nil_of_length_eq_zero (by have : rv.Members_l = v.mem.length := hvl; have : rv.Members_l ≤ rv.Members_c := hvc; omega)
              rw [this]
              exact Rd.nil _ _
            · rw [if_neg h1]
              have hr := hF.view.rd
              rcases hr with he | ⟨b, o, he, hc⟩
              · rw [hnews] at he; simp [ApiMemberR.cells] at he
              · have he' : rv.Members = some ⟨b, o, none⟩ := he
                rw [he']
                have := Rd.drop (.inr ⟨b, o, rfl, hc⟩ : Rd u2 (some ⟨b, o, none⟩) (mrows v.mem).flatten) 3
                rw [hnews] at this
                exact this
          have hl3 : (mrows mt).flatten.length = mt.length * inf.size := by
            rw [hsz]
            have := flat_length (rows := mrows mt) (sz := 3) (fun r hr => by obtain ⟨y, _, rfl⟩ := List.mem_map.1 hr; rfl)
            rw [this]; simp [mrows]
          have hsing : ∀ x ∈ (mrows mt).flatten, single x = true := by
            intro x hx
            obtain ⟨r, hr, hx⟩ := List.mem_flatten.1 hx
            obtain ⟨y, _, rfl⟩ := List.mem_map.1 hr
            exact ApiMemberR.single y x hx
          have hnat : Int.toNat (rv.Members_l : Int) - Int.toNat 1 = mt.length := by have : rv.Members_l = v.mem.length := hvl; omega
          rw [hnat]
          have hon : Owns u2 TMb inf.size none 0 0 [] := Owns.nil _ _ _
          obtain ⟨ap, cap', w7', hrun, hown7, hk7, hap⟩ := Owns.append (P := Tryz.prog) (t := TSM) (ty := TSM) Tryz.underlying23 hinf hz (by rw [hsz]; rfl) (by omega) hon (m := mt.length) (c := Int.toNat (rv.Members_c : Int) - Int.toNat 1) hl3 hrd hsing (by omega) (by rw [hby]; omega)
          rw [hsz] at hown7
          simp only [Nat.zero_add, List.nil_append] at hrun hown7
          have hn7 : New u2 w7' := hk7.mono fun k _ hk => by obtain ⟨o, ho⟩ := hk; cases ho
          refine ⟨ap, mt.length, cap', w7', hrun, ?_⟩
          have hap4 : ∀ k, isB ap k → b4 < k := fun k hk => by
            obtain ⟨o, ho⟩ := hk
            rcases hap with e | e
            · rw [e] at ho; cases ho
            · rw [e] at ho; simp at ho; omega
          refine setv_k (b := b3) (New.blk hn7 hF.h3) (o := 0 + 1 + 1) (by simp [FetchJobR.cells]) fun u4 h34 hk4 => ?_
          refine out (q := ⟨n, ⟨rv.Number, ap, mt.length, cap'⟩, a, L.length, c⟩) (hk4.blk (New.blk hn7 hF.h2) (by omega)) h34 fun w' hk' => ?_
          have ho4 := Owns.keep hk4 hown7 fun k hk e => by have := hap4 k hk; omega
          refine fin _ ⟨v.number, mt⟩ L (fun k => k = b2) u4 w' ((hF.new.new hn7).trans hk4 fun k hlt e => by omega) ⟨hF.view.num, rfl, ho4.le, ho4.rd, off_of ho4.rd fun k hk e => by have := hap4 k hk; omega, by show mt.length ≤ _; omega⟩ rfl (Owns.keep hk4 (Owns.new hn7 hF.own) fun k hk e => by have := hF.off k hk; omega) hof2 hLl hk'
        · -- a line is changed
          have hpos : 0 < L.length := by have : (L.length : Int) > 0 := hl0; omega
          have hkl : k.toNat < L.length := by
            have : k < (L.length : Int) := by
              have h2 := hpk.2
              by_cases hc1 : (1 : Int) < (L.length : Nat)
              · rw [if_pos hc1] at h2; exact h2
              · rw [if_neg hc1] at h2; omega
            omega
          have hg : L[k.toNat]? = some L[k.toNat] := List.getElem?_eq_getElem hkl
          rintro u3 hu3
          have hn3 : New u2 u3 := by rw [hu3]; exact new_drew _
          clear hu3
          have hF3 := hF.keep hn3 (fun k h => h.elim) (fun k _ h => h)
          refine ⟨fun y => New u3 y, Keep.refl _ _, _, _, _, fun y hy => (New.blk hy hF3.h3).cell (i := 3) rfl, _, _, _, fun y hy => (New.blk hy hF3.h3).cell (i := 3) rfl, ?_⟩
          refine rd_i hF3.own.rd hg (by omega) rfl fun b o hc => ⟨_, fun y hy => hc y hy, _, fun y hy => (New.blk hy hF3.h1).cell (i := 3) rfl, ?_⟩
          refine at_call (Pick_c u3 _ 9 (wrap_I64 _) (by omega)) ?_
          rintro x u4 ⟨rfl, rfl⟩
          refine ⟨_, rfl, Keep.refl _ _, ?_⟩
          obtain ⟨g, cur, rfl, hgb, hgl⟩ := owns_some hF3.own hpos
          refine idxS_mk (by omega) (by show k < (L.length : Int); omega) ?_
          have hlt : 0 + k.toNat * 1 < cur.length := by have : L.length * 1 ≤ cur.length := hgl; omega
          refine ⟨⟨_, hgb.cell (List.getElem?_eq_getElem hlt)⟩, hgb.frozen, fun u5 hu5 => ?_⟩
          generalize (IntKind.i64.wrap _) = nv at hu5
          have hk5 : Keep (fun k => k = g) u4 u5 := by rw [hu5]; exact keep_setCell _ _ _ _
          have ho5 := Owns.setCell hF3.own (i := 0 + k.toNat * 1) (by show _ < L.length * 1; omega) (.int .i64 nv)
          have hse : (is L).set (0 + k.toNat * 1) (.int .i64 nv) = is (L.set k.toNat nv) := by simp [is]
          rw [hse] at ho5
          have ho5 : Owns u5 3 1 (some ⟨g, 0, none⟩) L.length c (is (L.set k.toNat nv)) := by rw [hu5]; exact ho5
          have hgb4 : b4 < g := hF3.off g ⟨0, rfl⟩
          refine out (q := ⟨n, rv, some ⟨g, 0, none⟩, L.length, c⟩) (hk5.blk hF3.h2 (by omega)) (hk5.blk hF3.h3 (by omega)) fun w' hk' => ?_
          exact fin _ v (L.set k.toNat nv) _ u5 w' (hF3.new.trans hk5 fun k hlt e => by omega) (hF3.view.keep hk5 fun k e => .inr (.inr (.inr (by omega)))) hM2 ho5 hof2 (by simpa using hLl) hk'
  refine bif_dec (fun hq => ?_) (fun hq => ?_)
  · refine ⟨_, hz16.cell (i := 1) rfl, ?_⟩
    refine at_call (HView_c w7 (number := 0) (full := 31) (n := 3) (boots := []) ⟨by omega, by omega⟩ hp.b ⟨by omega, by omega⟩ (Rd.nil _ _) rfl (by simp) (by simp) (by omega) (by omega)) ?_
    rintro x w8 ⟨rv, v, rfl, hv, hn8, hgv⟩
    refine ApiViewR.mk_ex rv ⟨rfl, ?_⟩
    have hz38 := New.blk hn8 hz3
    refine ⟨wrAt_blk hz38 (by simp [FetchJobR.cells, ApiViewR.cells]) (ApiViewR.single _), fun w9 hw9 => ?_⟩
    have hk9 : Keep (fun k => k = b3) w8 w9 := by rw [hw9]; exact keep_puts _ _ _ _ _
    have hz39 : Blk w9 b3 (FetchJobR.cells ⟨n, rv, none, 0, 0⟩) 71 := by rw [hw9]; exact hz38.puts
    have hv9 : ViewAt (Under w7.heap.size) w9 rv v := hv.keep hk9 fun k e => by show k < _; omega
    clear hw9
    rintro b4 w10 hb4 hw10
    obtain ⟨hz4, hn10⟩ := box_new hb4 hw10
    have hs10 : b4 < w10.heap.size := hz4.lt
    clear hw10
    have hs8 := hn8.size
    have hs9 := hk9.size
    have hnew : New w w10 := ((hn16.new hn8).trans hk9 fun k hlt e => by omega).new hn10
    refine rest w10 b4 rv v _ hs10 ⟨hnew, New.blk hn10 (hk9.blk (New.blk hn8 hz16) (by omega)), New.blk hn10 (hk9.blk (New.blk hn8 hz26) (by omega)), New.blk hn10 hz39, ⟨by omega, by omega, by omega, by omega⟩, ?_, hgv.ne, Owns.nil _ _ _, (fun k hk => by obtain ⟨o, ho⟩ := hk; cases ho), by simp⟩ hz4
    refine ((hv9.mono fun k hlt hm => ?_).new hn10)
    show k < w7.heap.size
    rcases hm with e | e | e | e <;> omega
  · rintro b4 w10 hb4 hw10
    obtain ⟨hz4, hn10⟩ := box_new hb4 hw10
    have hs10 : b4 < w10.heap.size := hz4.lt
    clear hw10
    refine rest w10 b4 rs vs _ hs10 ⟨hn16.new hn10, New.blk hn10 hz16, New.blk hn10 hz26, New.blk hn10 hz3, ⟨by omega, by omega, by omega, by omega⟩, ?_, hgs.ne, Owns.nil _ _ _, (fun k hk => by obtain ⟨o, ho⟩ := hk; cases ho), by simp⟩ hz4
    refine ((hvs.mono fun k hlt hm => ?_).new (hn6.new hn10))
    show k < w3.heap.size
    rcases hm with e | e | e | e <;> omega
end Go.Proofs.YtihfgcmmljnhnaaGreat
