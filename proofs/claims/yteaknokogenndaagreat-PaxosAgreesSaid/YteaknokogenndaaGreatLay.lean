/- Contracts of the packages word and layout. -/
import Derived.Test.YteaknokogenndaaGreatNew
set_option linter.unusedVariables false
namespace Go.Proofs.YteaknokogenndaaGreat
open Go.Eng

/-! ### Words -/

theorem wrapu {x : Int} (h0 : 0 ≤ x) (h1 : x < 18446744073709551616) : IntKind.u64.wrap x = x := by
  simp only [IntKind.wrap, IntKind.bits, IntKind.signed]; simp; omega

theorem ofInt_nat (n : Nat) : BitVec.ofInt 64 (n : Int) = BitVec.ofNat 64 n := by
  apply BitVec.eq_of_toInt_eq
  simp [BitVec.toInt_ofInt, BitVec.toInt_ofNat]

theorem bor_nat (a b : Nat) (ha : a < 18446744073709551616) (hb : b < 18446744073709551616) : bor .u64 (a : Int) (b : Int) = ((a ||| b : Nat) : Int) := by
  have hab : a ||| b < 2 ^ 64 := Nat.or_lt_two_pow (by omega) (by omega)
  unfold bor
  show IntKind.u64.wrap ((BitVec.ofInt 64 (a : Int) ||| BitVec.ofInt 64 (b : Int)).toNat : Int) = _
  rw [ofInt_nat, ofInt_nat, BitVec.toNat_or, BitVec.toNat_ofNat, BitVec.toNat_ofNat, Nat.mod_eq_of_lt (by omega), Nat.mod_eq_of_lt (by omega)]
  exact wrapu (by omega) (by omega)

theorem band_nat (a b : Nat) (ha : a < 18446744073709551616) (hb : b < 18446744073709551616) : band .u64 (a : Int) (b : Int) = ((a &&& b : Nat) : Int) := by
  have hab : a &&& b < 2 ^ 64 := Nat.and_lt_two_pow _ (by omega)
  unfold band
  show IntKind.u64.wrap ((BitVec.ofInt 64 (a : Int) &&& BitVec.ofInt 64 (b : Int)).toNat : Int) = _
  rw [ofInt_nat, ofInt_nat, BitVec.toNat_and, BitVec.toNat_ofNat, BitVec.toNat_ofNat, Nat.mod_eq_of_lt (by omega), Nat.mod_eq_of_lt (by omega)]
  exact wrapu (by omega) (by omega)

theorem or_add (a b k : Nat) (hb : b < 2 ^ k) : a * 2 ^ k ||| b = a * 2 ^ k + b := by
  rw [Nat.mul_comm, Nat.two_pow_add_eq_or_of_lt hb]

/-- A consensus word. -/
def cw (p a v : Int) : Int := p * 4503599627370496 + a * 1099511627776 + v

theorem cw_bits {p a v : Int} (hp : 0 ≤ p ∧ p < 4096) (ha : 0 ≤ a ∧ a < 4096) (hv : 0 ≤ v ∧ v < 1099511627776) : bor .u64 (bor .u64 (bshl .u64 p 52) (bshl .u64 a 40)) v = cw p a v := by
  obtain ⟨p, rfl⟩ := Int.eq_ofNat_of_zero_le hp.1
  obtain ⟨a, rfl⟩ := Int.eq_ofNat_of_zero_le ha.1
  obtain ⟨v, rfl⟩ := Int.eq_ofNat_of_zero_le hv.1
  have e1 : bshl .u64 (p : Int) 52 = ((p * 2 ^ 52 : Nat) : Int) := by
    show IntKind.u64.wrap ((p : Int) * 2 ^ 52) = _
    rw [wrapu (by omega) (by omega)]; simp
  have e2 : bshl .u64 (a : Int) 40 = ((a * 2 ^ 40 : Nat) : Int) := by
    show IntKind.u64.wrap ((a : Int) * 2 ^ 40) = _
    rw [wrapu (by omega) (by omega)]; simp
  rw [e1, e2, bor_nat _ _ (by omega) (by omega), or_add _ _ 52 (by omega), show p * 2 ^ 52 + a * 2 ^ 40 = (p * 2 ^ 12 + a) * 2 ^ 40 by omega, bor_nat _ _ (by omega) (by omega), or_add _ _ 40 (by omega)]
  unfold cw
  omega

def cwP (w : Int) : Int := w / 4503599627370496
def cwA (w : Int) : Int := w / 1099511627776 % 4096
def cwV (w : Int) : Int := w % 1099511627776

theorem cwP_cw {p a v : Int} (ha : 0 ≤ a ∧ a < 4096) (hv : 0 ≤ v ∧ v < 1099511627776) : cwP (cw p a v) = p := by unfold cwP cw; omega
theorem cwA_cw {p a v : Int} (ha : 0 ≤ a ∧ a < 4096) (hv : 0 ≤ v ∧ v < 1099511627776) : cwA (cw p a v) = a := by unfold cwA cw; omega
theorem cwV_cw {p a v : Int} (ha : 0 ≤ a ∧ a < 4096) (hv : 0 ≤ v ∧ v < 1099511627776) : cwV (cw p a v) = v := by unfold cwV cw; omega
theorem cwA_in (w : Int) : 0 ≤ cwA w ∧ cwA w < 4096 := by unfold cwA; omega
theorem cwV_in (w : Int) : 0 ≤ cwV w ∧ cwV w < 1099511627776 := by unfold cwV; omega
theorem cwP_in {w : Int} (h : 0 ≤ w ∧ w < 18446744073709551616) : 0 ≤ cwP w ∧ cwP w < 4096 := by unfold cwP; omega
theorem cw_split (w : Int) : cw (cwP w) (cwA w) (cwV w) = w := by unfold cw cwP cwA cwV; omega

theorem shr52 {w : Int} (h : 0 ≤ w) : bshr .u64 w 52 = cwP w := by
  show Int.fdiv w 4503599627370496 = _
  rw [Int.fdiv_eq_ediv_of_nonneg _ (by decide)]; rfl
theorem shr40 {w : Int} (h : 0 ≤ w) : bshr .u64 w 40 = w / 1099511627776 := by
  show Int.fdiv w 1099511627776 = _
  rw [Int.fdiv_eq_ediv_of_nonneg _ (by decide)]

theorem band_mask {w : Int} (h0 : 0 ≤ w) (h1 : w < 18446744073709551616) (k : Nat) (hk : k < 64) : band .u64 w ((2 ^ k - 1 : Nat) : Int) = w % (2 ^ k : Nat) := by
  obtain ⟨n, rfl⟩ := Int.eq_ofNat_of_zero_le h0
  have : 2 ^ k < 2 ^ 64 := Nat.pow_lt_pow_right (by decide) hk
  rw [band_nat _ _ (by omega) (by omega), Nat.and_two_pow_sub_one_eq_mod]
  simp

theorem within_c (w : World) (x a b : Int) : Does 44 [.int .i64 x, .int .i64 a, .int .i64 b] w fun v w' => v = .bool (decide (a ≤ x ∧ x ≤ b)) ∧ w' = w := by
  refine does Tryz.func44 ?_
  rw [word_within_int_vc]
  refine bif_dec (fun h => ⟨?_, rfl⟩) (fun h => ⟨?_, rfl⟩)
  · have : a ≤ x := h
    simp [this]
  · have : ¬ a ≤ x := h
    simp [this]

theorem withinu_c (w : World) (x a b : Int) : Does 87 [.int .u64 x, .int .u64 a, .int .u64 b] w fun v w' => v = .bool (decide (a ≤ x ∧ x ≤ b)) ∧ w' = w := by
  refine does Tryz.func87 ?_
  rw [word_within_uint64_vc]
  refine bif_dec (fun h => ⟨?_, rfl⟩) (fun h => ⟨?_, rfl⟩)
  · have : a ≤ x := h
    simp [this]
  · have : ¬ a ≤ x := h
    simp [this]

theorem isClient_c (w : World) (x : Int) : Does 45 [.int .i64 x] w fun v w' => v = .bool (decide (0 ≤ x ∧ x ≤ 5)) ∧ w' = w := by
  refine does Tryz.func45 ?_
  rw [word_isClient_vc]
  refine at_call (within_c _ _ _ _) ?_
  rintro v w1 ⟨rfl, rfl⟩
  exact ⟨_, rfl, rfl, rfl⟩

theorem Key0_c (w : World) : Does 69 [.int .i64 0, .bool true] w fun v w' => v = .tuple #[.int .u64 1, .int .i64 0] ∧ w' = w := by
  refine does Tryz.func69 ?_
  rw [word_Key_vc]
  refine at_call (within_c _ _ _ _) ?_
  rintro v w1 ⟨rfl, rfl⟩
  exact ⟨_, rfl, rfl, rfl⟩

theorem Header1_c (w : World) : Does 73 [.int .u64 1, .int .i64 0] w fun v w' => v = .tuple #[.int .u64 256, .int .i64 0] ∧ w' = w := by
  refine does Tryz.func73 ?_
  rw [word_Header_vc]
  refine at_call (withinu_c _ _ _ _) ?_
  rintro v w1 ⟨rfl, rfl⟩
  refine ⟨_, rfl, bif_f rfl ?_⟩
  refine at_call (within_c _ _ _ _) ?_
  rintro v w1 ⟨rfl, rfl⟩
  refine ⟨_, rfl, bif_f rfl ⟨?_, rfl⟩⟩
  rfl

def ballot (r c : Int) : Int := r * 8 + c + 1

theorem Ballot_c (w : World) (r c : Int) : Does 28 [.int .i64 r, .int .i64 c] w fun v w' => v = .tuple #[.int .u64 (if 1 ≤ r ∧ r ≤ 500 ∧ 0 ≤ c ∧ c ≤ 5 then ballot r c else 0), .int .i64 (if 1 ≤ r ∧ r ≤ 500 then if 0 ≤ c ∧ c ≤ 5 then 0 else 1 else 2)] ∧ w' = w := by
  refine does Tryz.func28 ?_
  rw [word_Ballot_vc]
  refine at_call (within_c _ _ _ _) ?_
  rintro v w1 ⟨rfl, rfl⟩
  refine ⟨_, rfl, ?_⟩
  by_cases h1 : 1 ≤ r ∧ r ≤ 500
  · refine bif_f (by simp [h1]) ?_
    refine at_call (isClient_c _ _) ?_
    rintro v w1 ⟨rfl, rfl⟩
    refine ⟨_, rfl, ?_⟩
    by_cases h2 : 0 ≤ c ∧ c ≤ 5
    · refine bif_f (by simp [h2]) ⟨?_, rfl⟩
      rw [if_pos h1, if_pos h2, if_pos ⟨h1.1, h1.2, h2⟩, w64 (x := r * 8) (by omega) (by omega), w64 (x := r * 8 + c) (by omega) (by omega), w64 (x := r * 8 + c + 1) (by omega) (by omega), wrapu (by omega) (by omega)]
      rfl
    · refine bif_t (by simp [h2]) ⟨?_, rfl⟩
      rw [if_pos h1, if_neg h2, if_neg (fun h => h2 h.2.2)]
  · refine bif_t (by simp [h1]) ⟨?_, rfl⟩
    rw [if_neg h1, if_neg (fun h => h1 ⟨h.1, h.2.1⟩)]

/-- A consensus word, or 0 where a part is too great. -/
def cwOf (p a v : Int) : Int := if p < 4096 ∧ a < 4096 ∧ v < 1099511627776 then cw p a v else 0

theorem WConsensus_c (w : World) {p a v : Int} (hp : 0 ≤ p) (ha : 0 ≤ a) (hv : 0 ≤ v) : Does 70 [.int .u64 p, .int .u64 a, .int .u64 v] w fun r w' => ∃ e, r = .tuple #[.int .u64 (cwOf p a v), .int .i64 e] ∧ w' = w := by
  refine does Tryz.func70 ?_
  rw [word_Consensus_vc]
  unfold cwOf
  refine bif_dec (fun h => ⟨2, ?_, rfl⟩) (fun h => bif_dec (fun h2 => ⟨2, ?_, rfl⟩) (fun h2 => bif_dec (fun h3 => ⟨2, ?_, rfl⟩) (fun h3 => ⟨0, ?_, rfl⟩)))
  · rw [if_neg (by omega)]
  · rw [if_neg (by omega)]
  · rw [if_neg (by omega)]
  · rw [if_pos (by omega), cw_bits (by omega) (by omega) (by omega)]

theorem mask12_c (w : World) : Does 110 [.int .i64 12] w fun v w' => v = .int .u64 ((2 ^ 12 - 1 : Nat) : Int) ∧ w' = w := by
  refine does Tryz.func110 ?_
  rw [word_mask_vc]
  exact ⟨by decide, rfl, rfl⟩

theorem mask40_c (w : World) : Does 110 [.int .i64 40] w fun v w' => v = .int .u64 ((2 ^ 40 - 1 : Nat) : Int) ∧ w' = w := by
  refine does Tryz.func110 ?_
  rw [word_mask_vc]
  exact ⟨by decide, rfl, rfl⟩

theorem callF_fn {P : Program} {f : FuncId} {first captured args xs : Array Value} {w : World} {R : Ending → World → Prop} (ho : okFun P f = true) (hx : first ++ args ++ captured = xs) (h : Calls P f xs w R) : callF P (.func (.func f) first captured) args w R := by
  unfold callF
  simp only [ho]
  rw [hx]
  exact h

theorem callY_fn {P : Program} {f : FuncId} {first captured args xs : Array Value} {w : World} {R : Ending → World → Prop} (ho : okFun P f = true) (hx : first ++ args ++ captured = xs) (h : Calls P f xs w R) : callY P (.func (.func f) first captured) args w R := by
  unfold callY
  exact callF_fn ho hx h

theorem Split_c (w : World) {x : Int} (h0 : 0 ≤ x) (h1 : x < 18446744073709551616) : Does 101 [.int .u64 x] w fun v w' => v = .tuple #[.int .u64 (cwP x), .int .u64 (cwA x), .int .u64 (cwV x)] ∧ w' = w := by
  refine does Tryz.func101 ?_
  rw [word_SplitConsensus_vc]
  refine at_call (mask12_c _) ?_
  rintro v w1 ⟨rfl, rfl⟩
  refine ⟨_, rfl, ?_⟩
  refine at_call (mask40_c _) ?_
  rintro v w1 ⟨rfl, rfl⟩
  refine ⟨_, rfl, ?_, rfl⟩
  rw [shr52 h0, shr40 h0, band_mask (by omega) (by omega) 12 (by omega), band_mask h0 h1 40 (by omega)]
  rfl

/-! ### Addresses -/

theorem region_c (w : World) (a b : Int) : Does 86 [.int .i64 a, .int .i64 b] w fun v w' => ∃ c0 c1, v = .func (.func 99) #[] #[ptr c0, ptr c1] ∧ Blk w' c0 [.int .i64 b] TI ∧ Blk w' c1 [.int .i64 a] TI ∧ New w w' := by
  refine does Tryz.func86 ?_
  rw [layout_region_vc]
  rintro b1 w1 hb1 hw1 b2 w2 hb2 hw2
  obtain ⟨hz1, hn1⟩ := box_new hb1 hw1
  obtain ⟨hz2, hn2⟩ := box_new hb2 hw2
  exact ⟨b2, b1, rfl, hz2, New.blk hn2 hz1, hn1.new hn2⟩

def regAt (a b i : Int) : Int := if i < 0 ∨ b ≤ i then -1 else a * 8 + i

theorem region1_c (w : World) {c0 c1 : Nat} {a b : Int} (h0 : Blk w c0 [.int .i64 b] TI) (h1 : Blk w c1 [.int .i64 a] TI) (ha : 0 ≤ a ∧ a ≤ 100000) (hb : b ≤ 100000) (i : Int) : Does 99 [.int .i64 i, ptr c0, ptr c1] w fun v w' => v = .int .i64 (regAt a b i) ∧ w' = w := by
  refine does Tryz.func99 ?_
  rw [ptr, ptr, layout_region_1_vc]
  unfold regAt
  refine bif_dec (fun h => ⟨by rw [if_pos (by omega)], rfl⟩) (fun h => ⟨b, h0.cell rfl, bif_dec (fun h2 => ⟨by rw [if_pos (by omega)], rfl⟩) (fun h2 => ⟨a, h1.cell rfl, ?_, rfl⟩)⟩)
  rw [if_neg (by omega), w64 (x := a * 8) (by omega) (by omega), w64 (x := a * 8 + i) (by omega) (by omega)]

attribute [local irreducible] okFun callY callF

theorem okRegion : okFun Tryz.prog 99 = true := by kernel_rfl

theorem Consensus_c (w : World) (i : Int) : Does 71 [.int .i64 i] w fun v w' => v = .int .i64 (regAt 1 16 i) ∧ New w w' := by
  refine does Tryz.func71 ?_
  rw [layout_Consensus_vc]
  refine at_call (region_c _ _ _) ?_
  rintro v w1 ⟨c0, c1, rfl, hb0, hb1, hn⟩
  have hok := okRegion
  refine ⟨_, rfl, ?_⟩
  have hx : (#[] ++ #[.int .i64 i] ++ #[ptr c0, ptr c1] : Array Value) = #[.int .i64 i, ptr c0, ptr c1] := by simp
  refine callY_fn hok hx ?_
  refine at_call (region1_c w1 hb0 hb1 (by omega) (by omega) i) ?_
  rintro v w2 ⟨rfl, rfl⟩
  exact ⟨_, rfl, rfl, hn⟩

theorem Door_c (w : World) (i : Int) : Does 72 [.int .i64 i] w fun v w' => v = .int .i64 (regAt 3 6 i) ∧ New w w' := by
  refine does Tryz.func72 ?_
  rw [layout_Door_vc]
  refine at_call (region_c _ _ _) ?_
  rintro v w1 ⟨c0, c1, rfl, hb0, hb1, hn⟩
  have hok := okRegion
  refine ⟨_, rfl, ?_⟩
  have hx : (#[] ++ #[.int .i64 i] ++ #[ptr c0, ptr c1] : Array Value) = #[.int .i64 i, ptr c0, ptr c1] := by simp
  refine callY_fn hok hx ?_
  refine at_call (region1_c w1 hb0 hb1 (by omega) (by omega) i) ?_
  rintro v w2 ⟨rfl, rfl⟩
  exact ⟨_, rfl, rfl, hn⟩

theorem Page_c (w : World) {i : Int} (h0 : 96 ≤ i) (h1 : i < 256) : Does 74 [.int .i64 i] w fun v w' => v = .int .i64 (i * 8) ∧ w' = w := by
  refine does Tryz.func74 ?_
  rw [layout_Page_vc]
  refine bif_dec (fun h => by omega) (fun h => bif_dec (fun h => by omega) (fun h => ⟨?_, rfl⟩))
  rw [w64 (by omega) (by omega)]

theorem Words_c (w : World) {i : Int} (h0 : 1 ≤ i) (h1 : i ≤ 256) : Does 68 [.int .i64 i] w fun v w' => v = .int .i64 (i * 8) ∧ w' = w := by
  refine does Tryz.func68 ?_
  rw [layout_Words_vc]
  refine bif_dec (fun h => by omega) (fun h => bif_dec (fun h => by omega) (fun h => ⟨?_, rfl⟩))
  rw [w64 (by omega) (by omega)]

/-- The value of view 0, from a node on. -/
def ivFrom : Nat → Int → Int → Int
  | 0, _, s => s
  | n + 1, i, s => ivFrom n (i + 1) (bor .u64 s (bshl .u64 7 (7 * i)))
def iv (n : Nat) : Int := ivFrom n 0 549755813888

theorem IV_c (w : World) {n : Nat} (h0 : 1 ≤ n) (h1 : n ≤ 5) : Does 65 [.int .i64 n] w fun v w' => v = .tuple #[.int .u64 (iv n), .int .i64 0] ∧ w' = w := by
  refine does Tryz.func65 ?_
  rw [layout_InitialValue_vc]
  refine bif_dec (fun h => by omega) (fun h => bif_dec (fun h => by omega) (fun h => ?_))
  refine loop_rule mix (fun m env u => ∃ (i : Nat) (s : Int) (jj : List Value), m = n - i ∧ i ≤ n ∧ env = layout_InitialValue_env1 s n i jj ∧ u = w ∧ ivFrom (n - i) i s = iv n) n ⟨0, _, _, rfl, by omega, rfl, rfl, rfl⟩ ?_
  rintro m env u ⟨i, s, jj, rfl, hi, rfl, rfl, hv⟩
  rw [layout_InitialValue_loop1_body]
  refine bif_dec (fun hp => ?_) (fun hp => ?_)
  · rw [w64 (by omega) (by omega), wrapu (by omega) (by omega), w64 (by omega) (by omega)]
    refine ⟨by omega, n - (i + 1), by omega, i + 1, _, _, rfl, by omega, rfl, rfl, ?_⟩
    rw [show n - i = n - (i + 1) + 1 by omega, ivFrom] at hv
    exact hv
  · rw [layout_InitialValue_aft1_vc]
    have : i = n := by omega
    subst this
    rw [Nat.sub_self, ivFrom] at hv
    rw [hv]
    exact ⟨rfl, rfl⟩

theorem iv_in {n : Nat} (h1 : n ≤ 5) : 0 ≤ iv n ∧ iv n < 1099511627776 := by
  rcases n with _ | _ | _ | _ | _ | _ | n
  all_goals first | decide | omega
end Go.Proofs.YteaknokogenndaaGreat
