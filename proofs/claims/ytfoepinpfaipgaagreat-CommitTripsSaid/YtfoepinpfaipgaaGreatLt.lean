/- Rows of numbers and of records, variables. -/
import Derived.Test.YtfoepinpfaipgaaGreatBase
set_option linter.unusedVariables false
namespace Go.Proofs.YtfoepinpfaipgaaGreat
open Go.Eng

/-- The number is one of Go's. -/
def I64 (x : Int) : Prop := -9223372036854775808 ≤ x ∧ x < 9223372036854775808
def U64 (x : Int) : Prop := 0 ≤ x ∧ x < 18446744073709551616
theorem lt_of_get {α : Type} {l : List α} {i : Nat} {x : α} (h : l[i]? = some x) : i < l.length := (List.getElem?_eq_some_iff.1 h).1

/-- Words as values. -/
def us (l : List Int) : List Value := l.map (Value.int .u64)
def is (l : List Int) : List Value := l.map (Value.int .i64)

theorem us_get {l : List Int} {i : Nat} {x : Int} (h : l[i]? = some x) : (us l)[i]? = some (.int .u64 x) := by simp [us, h]
theorem us_len (l : List Int) : (us l).length = l.length := by simp [us]
theorem is_len (l : List Int) : (is l).length = l.length := by simp [is]
theorem us_single (l : List Int) : ∀ u ∈ us l, single u = true := by
  intro u hu
  simp only [us, List.mem_map] at hu
  obtain ⟨x, _, rfl⟩ := hu
  rfl
theorem is_single (l : List Int) : ∀ u ∈ is l, single u = true := by
  intro u hu
  simp only [is, List.mem_map] at hu
  obtain ⟨x, _, rfl⟩ := hu
  rfl

theorem put_k {u : World} {b : Nat} {cs vs : List Value} {T : TypeId} {K : World → Prop} (hb : Blk u b cs T) (hl : vs.length = cs.length) (hs : ∀ v ∈ vs, single v = true) (hk : ∀ w', Blk w' b vs T → Keep (fun k => k = b) u w' → K w') :
    wrAt u ⟨b, 0, none⟩ 0 vs ∧ ∀ w', w' = puts u ⟨b, 0, none⟩ 0 vs → K w' := by
  refine ⟨wrAt_blk hb (by omega) hs, ?_⟩
  rintro w' rfl
  refine hk _ ?_ (keep_puts _ _ _ _ _)
  have h := hb.puts (o := 0) (i := 0) (vs := vs)
  rw [splice_all hl] at h
  exact h

theorem box_k {u : World} {zs vs : List Value} {T : TypeId} {K : Nat → World → Prop} (hl : vs.length = zs.length) (hs : ∀ v ∈ vs, single v = true) (hk : ∀ b w', b = u.heap.size → Blk w' b vs T → New u w' → K b w') :
    ∀ b1 w1, b1 = u.heap.size → w1 = u.alloc (.cells zs.toArray T) → wrAt w1 ⟨b1, 0, none⟩ 0 vs ∧ ∀ w2, w2 = puts w1 ⟨b1, 0, none⟩ 0 vs → K b1 w2 := by
  rintro b1 w1 hb1 hw1
  obtain ⟨hz, hn⟩ := box_new hb1 hw1
  refine put_k hz (by simpa using hl) hs fun w' hb' hk' => hk b1 w' hb1 hb' (hn.trans hk' fun k hlt e => ?_)
  omega

theorem new_fresh {u z w3 : World} {a : Option Addr} (hn : New u z) (hk : Keep (isB a) z w3) (ha : ∀ k, isB a k → u.heap.size ≤ k) : New u w3 :=
  hn.trans hk fun k hlt hb => by have := ha k hb; omega

/-! ### Rows of records -/

/-- An element of a slice of records. -/
theorem rd_rec {α : Type} {cells : α → List Value} {sz : Nat} (hsz : ∀ x, (cells x).length = sz) (h0 : 0 < sz) {u : World} {a : Option Addr} {l : List α} (h : Rd u a (l.map cells).flatten) {i : Nat} {x : α} (hx : l[i]? = some x) {z : Int} (hz : z = i) {n : Nat} (hn : n = l.length) {K : Addr → Prop}
    (hk : ∀ b o, cellsAt u ⟨b, o, none⟩ 0 (cells x) → (∀ (q : Nat) (v : Value), (cells x)[q]? = some v → u.cell? ⟨b, o + q, none⟩ = some v) → K ⟨b, o, none⟩) : idxS a n z sz K := by
  subst hz hn
  have hlt := lt_of_get hx
  obtain ⟨b, o, rfl, h1, h2⟩ := h.row (sz := sz) (fun r hr => by obtain ⟨y, _, rfl⟩ := List.mem_map.1 hr; exact hsz y) h0 (i := i) (r := cells x) (by simp [hx])
  exact idxS_mk (by omega) (by omega) (by simpa using hk b _ h1 h2)

/-- The same where the element is read in whatever world. -/
theorem rd_recS {α : Type} {cells : α → List Value} {sz : Nat} (hsz : ∀ x, (cells x).length = sz) (h0 : 0 < sz) {u : World} {a : Option Addr} {l : List α} (h : Rd u a (l.map cells).flatten) {i : Nat} {x : α} (hx : l[i]? = some x) {z : Int} (hz : z = i) {n : Nat} (hn : n = l.length) {K : Addr → Prop}
    (hk : ∀ b o, (∀ y, New u y → ∀ (q : Nat) (v : Value), (cells x)[q]? = some v → y.cell? ⟨b, o + q, none⟩ = some v) → K ⟨b, o, none⟩) : idxS a n z sz K := by
  subst hz hn
  have hlt := lt_of_get hx
  have hs : ∀ r ∈ l.map cells, r.length = sz := fun r hr => by obtain ⟨y, _, rfl⟩ := List.mem_map.1 hr; exact hsz y
  obtain ⟨b, o, rfl, h1, h2⟩ := h.row (sz := sz) hs h0 (i := i) (r := cells x) (by simp [hx])
  refine idxS_mk (by omega) (by omega) ?_
  have := hk b (o + i * sz) fun y hy q v hv => by
    obtain ⟨b', o', e, _, g2⟩ := (h.new hy).row (sz := sz) hs h0 (i := i) (r := cells x) (by simp [hx])
    simp at e
    obtain ⟨rfl, rfl⟩ := e
    exact g2 q v hv
  simpa using this

/-! ### Words -/

theorem wrapu {x : Int} (h0 : 0 ≤ x) (h1 : x < 18446744073709551616) : IntKind.u64.wrap x = x := by
  simp only [IntKind.wrap, IntKind.bits, IntKind.signed]; simp; omega

theorem ofInt_nat (n : Nat) : BitVec.ofInt 64 (n : Int) = BitVec.ofNat 64 n := by
  apply BitVec.eq_of_toInt_eq
  simp

theorem bor_nat (a b : Nat) (ha : a < 18446744073709551616) (hb : b < 18446744073709551616) : bor .u64 (a : Int) (b : Int) = ((a ||| b : Nat) : Int) := by
  have hab : a ||| b < 2 ^ 64 := Nat.or_lt_two_pow (by omega) (by omega)
  unfold bor
  show IntKind.u64.wrap ((BitVec.ofInt 64 (a : Int) ||| BitVec.ofInt 64 (b : Int)).toNat : Int) = _
  rw [ofInt_nat, ofInt_nat, BitVec.toNat_or, BitVec.toNat_ofNat, BitVec.toNat_ofNat, Nat.mod_eq_of_lt (by omega), Nat.mod_eq_of_lt (by omega)]
  exact wrapu (by omega) (by omega)

theorem band_nat (a b : Nat) (ha : a < 18446744073709551616) (hb : b < 18446744073709551616) : band .u64 (a : Int) (b : Int) = ((a &&& b : Nat) : Int) := by
  have hab : a &&& b < 2 ^ 64 := Nat.and_lt_two_pow _ (by omega)
  unfold band
  show IntKind.u64.wrap ((BitVec.ofInt 64 (a : Int) &&& BitVec.ofInt 64 (b : Int)).toNat : Int) = _
  rw [ofInt_nat, ofInt_nat, BitVec.toNat_and, BitVec.toNat_ofNat, BitVec.toNat_ofNat, Nat.mod_eq_of_lt (by omega), Nat.mod_eq_of_lt (by omega)]
  exact wrapu (by omega) (by omega)

theorem or_add (a b k : Nat) (hb : b < 2 ^ k) : a * 2 ^ k ||| b = a * 2 ^ k + b := by
  rw [Nat.mul_comm, Nat.two_pow_add_eq_or_of_lt hb]

/-- A cell of a variable is set. -/
theorem setv_k {u : World} {b o : Nat} {cs : List Value} {T : TypeId} {v : Value} {K : World → Prop} (hb : Blk u b cs T) (ho : o < cs.length) (hk : ∀ w', Blk w' b (cs.set o v) T → Keep (fun k => k = b) u w' → K w') :
    (∃ x, u.cell? ⟨b, o, none⟩ = some x) ∧ u.frozen? ⟨b, o, none⟩ = false ∧ ∀ w', w' = u.setCell ⟨b, o, none⟩ v → K w' :=
  ⟨⟨_, hb.cell (List.getElem?_eq_getElem ho)⟩, hb.frozen, fun w' h => by subst h; exact hk _ (hb.setCell v) (keep_setCell _ _ _ _)⟩

theorem callF_fn {P : Program} {f : FuncId} {first captured args xs : Array Value} {w : World} {R : Ending → World → Prop} (ho : okFun P f = true) (hx : first ++ args ++ captured = xs) (h : Calls P f xs w R) : callF P (.func (.func f) first captured) args w R := by
  unfold callF
  simp only [ho]
  rw [hx]
  exact h

theorem callY_fn {P : Program} {f : FuncId} {first captured args xs : Array Value} {w : World} {R : Ending → World → Prop} (ho : okFun P f = true) (hx : first ++ args ++ captured = xs) (h : Calls P f xs w R) : callY P (.func (.func f) first captured) args w R := by
  unfold callY
  exact callF_fn ho hx h

theorem band_mask {w : Int} (h0 : 0 ≤ w) (h1 : w < 18446744073709551616) (k : Nat) (hk : k < 64) : band .u64 w ((2 ^ k - 1 : Nat) : Int) = w % (2 ^ k : Nat) := by
  obtain ⟨n, rfl⟩ := Int.eq_ofNat_of_zero_le h0
  have : 2 ^ k < 2 ^ 64 := Nat.pow_lt_pow_right (by decide) hk
  rw [band_nat _ _ (by omega) (by omega), Nat.and_two_pow_sub_one_eq_mod]
  simp

/-- A box is appended to a slice that owns its row. -/
theorem push_k {S e : TypeId} {i : TypeInfo} {z : Value} (ht : Tryz.prog.underlying S = some (.slice e)) (hi : Tryz.prog.info? e = some i) (hz : i.zero = some z) (hzs : z.cells.size = i.size) (hsz : 0 < i.size)
    {u : World} {a : Option Addr} {n cap : Nat} {xs : List Value} (ho : Owns u e i.size a n cap xs) {vs : List Value} (hl : vs.length = i.size) (hs : ∀ v ∈ vs, single v = true) (hb1 : n ≤ 1000000000) (hb2 : i.bytes ≤ 1000) {K : Nat → Option Addr → Nat → Nat → World → Prop}
    (hk : ∀ b ap cap' w3, b = u.heap.size → Owns w3 e i.size ap (n + 1) cap' (xs ++ vs) → Keep (isB a) u w3 → (∀ k, isB ap k → isB a k ∨ u.heap.size ≤ k) → K b ap (n + 1) cap' w3) :
    ∀ b1 w2, b1 = u.heap.size → w2 = u.alloc (.cells vs.toArray e) → ∃ (ap : Option Addr) (ap_len ap_cap : Nat), ∃ w3, (Builtin.append_ #[S, S] S #[(.slice a n cap), (.slice (some ⟨b1, 0, none⟩) 1 1)]).run Tryz.prog w2 = .ok (.slice ap ap_len ap_cap) w3 ∧ K b1 ap ap_len ap_cap w3 := by
  rintro b1 w2 hb hw
  obtain ⟨hz2, hn2⟩ := box_new hb hw
  have hbb : (n + 1) * i.bytes ≤ 1000000001 * 1000 := Nat.mul_le_mul (by omega) hb2
  obtain ⟨ap, cap', w7, hrun, hown7, hk7, hap⟩ := Owns.append (P := Tryz.prog) (t := S) (ty := S) ht hi hz hzs hsz (Owns.new hn2 ho)
    (s := some ⟨b1, 0, none⟩) (m := 1) (c := 1) (news := vs) (by omega) (rd_blk hz2 (by simp)) hs (by omega) (by omega)
  refine ⟨ap, n + 1, cap', w7, hrun, hk b1 ap cap' w7 hb hown7 ((Keep.of_new hn2).trans hk7 fun _ _ h => h) fun k hk => ?_⟩
  rcases hap with e | e
  · exact .inl (e ▸ hk)
  · obtain ⟨o, ho⟩ := hk
    rw [e] at ho
    simp at ho
    have := hn2.size
    omega

theorem off_of {M : Nat → Prop} {w : World} {a : Option Addr} {xs : List Value} (h : Rd w a xs) (ho : ∀ k, isB a k → ¬ M k) : xs = [] ∨ Off M a := by
  rcases h with h | ⟨b, o, rfl, _⟩
  · exact .inl h
  · exact .inr (ho b ⟨o, rfl⟩)

theorem Owns.setCell {w : World} {e sz n cap g : Nat} {xs : List Value} (h : Owns w e sz (some ⟨g, 0, none⟩) n cap xs) {i : Nat} (hi : i < n * sz) (v : Value) : Owns (w.setCell ⟨g, i, none⟩ v) e sz (some ⟨g, 0, none⟩) n cap (xs.set i v) := by
  rcases h.2 with ⟨h0, _⟩ | ⟨g', cur, he, hb, hle, hc, hl, ht⟩
  · cases h0
  · simp only [Option.some.injEq, Addr.mk.injEq, and_true] at he
    subst he
    refine ⟨by simp [h.1], .inr ⟨g, cur.set i v, rfl, hb.setCell v, hle, hc, by simp [hl], ?_⟩⟩
    rw [← ht, List.take_set]

end Go.Proofs.YtfoepinpfaipgaaGreat
