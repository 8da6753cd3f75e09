/- Contracts of package memnode, and of slices.Clone. -/
import Derived.Test.YteaknokogenndaaGreatBase
import Derived.Test.YteaknokogenndaaGreatCode1
import Derived.Test.YteaknokogenndaaGreatCode3
import Derived.Test.YteaknokogenndaaGreatCode4
import Derived.Test.YteaknokogenndaaGreatCode5
import Derived.Test.YteaknokogenndaaGreatCode6
set_option linter.unusedVariables false
namespace Go.Proofs.YteaknokogenndaaGreat
open Go.Eng

/-- Words as values. -/
def us (l : List Int) : List Value := l.map (Value.int .u64)
def is (l : List Int) : List Value := l.map (Value.int .i64)

theorem us_get {l : List Int} {i : Nat} {x : Int} (h : l[i]? = some x) : (us l)[i]? = some (.int .u64 x) := by simp [us, h]
theorem us_len (l : List Int) : (us l).length = l.length := by simp [us]
theorem is_len (l : List Int) : (is l).length = l.length := by simp [is]
theorem us_single (l : List Int) : ∀ u ∈ us l, single u = true := by
  intro u hu
  simp only [us, List.mem_map] at hu
  obtain ⟨x, _, rfl⟩ := hu
  rfl
theorem is_single (l : List Int) : ∀ u ∈ is l, single u = true := by
  intro u hu
  simp only [is, List.mem_map] at hu
  obtain ⟨x, _, rfl⟩ := hu
  rfl

/-- What a clone of a slice is: nil for nil, else a row of its own in a new block. -/
def Cloned (w w' : World) (e sz : Nat) (a a' : Option Addr) (n cap : Nat) (xs : List Value) : Prop :=
  New w w' ∧ Owns w' e sz a' n cap xs ∧ (∀ k, isB a' k → w.heap.size ≤ k) ∧ (a' = none ↔ a = none)

theorem clone_core {t ty e : TypeId} {i : TypeInfo} {z : Value} (ht : Tryz.prog.underlying t = some (.slice e)) (hi : Tryz.prog.info? e = some i) (hz : i.zero = some z) (hzs : z.cells.size = i.size) (hsz : 0 < i.size)
    {w : World} {a : Addr} {n c : Nat} {xs : List Value} (hl : xs.length = n * i.size) (hr : Rd w (some a) xs) (h1 : ∀ u ∈ xs, single u = true) (hb1 : n ≤ 140737488355328) (hb2 : n * i.bytes ≤ 140737488355328) :
    ∃ a' cap' w', (Builtin.append_ #[t, t] ty #[.slice (some ⟨w.heap.size, 0, none⟩) 0 0, .slice (some a) n c]).run Tryz.prog (w.alloc (.cells #[] e)) = .ok (.slice a' n cap') w' ∧ Cloned w w' e i.size (some a) a' n cap' xs := by
  have ho : Owns (w.alloc (.cells #[] e)) e i.size (some ⟨w.heap.size, 0, none⟩) 0 0 [] := by
    refine ⟨by simp, .inr ⟨w.heap.size, [], rfl, ?_, by omega, by simp [maxLen], by simp, by simp⟩⟩
    exact blk_alloc w [] e
  obtain ⟨a', cap', w', hrun, hown, hk, ha⟩ := ho.append (P := Tryz.prog) (ty := ty) ht hi hz hzs hsz hl (hr.new (new_alloc _ _)) h1 (c := c) (by omega) (by simpa using hb2)
  simp only [Nat.zero_add, List.nil_append] at hrun hown
  refine ⟨a', cap', w', hrun, ?_, hown, ?_, ?_⟩
  · refine (new_alloc w _).trans hk ?_
    rintro k hlt ⟨o, ho⟩
    simp at ho
    omega
  · rintro k ⟨o, rfl⟩
    rcases ha with ha | ha
    · simp at ha; omega
    · simp at ha; omega
  · rcases ha with rfl | rfl <;> simp

theorem Clone_u64_c {w : World} {a : Option Addr} {n c : Nat} {xs : List Value} (hl : xs.length = n) (hr : Rd w a xs) (h1 : ∀ u ∈ xs, single u = true) (hb : n ≤ 1000000000) (hn : a = none → n = 0) :
    Does 63 [.slice a n c] w fun v w' => ∃ a' cap, v = .slice a' n cap ∧ Cloned w w' 22 1 a a' n cap xs := by
  refine does Tryz.func63 ?_
  rw [slices_Clone_Suint64_uint64_vc]
  obtain ⟨i, hi, hz, hsz, hby⟩ := infoB (T := 22) (z := .int .u64 0) (n := 1) (m := 8) (by kernel_rfl)
  cases a with
  | none =>
    refine bif_t rfl ⟨none, 0, by rw [hn rfl], Keep.refl _ _, ?_, ?_, by simp⟩
    · rw [hn rfl] at hl ⊢
      rw [List.eq_nil_of_length_eq_zero hl]
      exact Owns.nil _ _ _
    · rintro k ⟨o, ho⟩; cases ho
  | some a =>
    refine bif_f rfl ?_
    rintro b1 w1 rfl rfl
    obtain ⟨a', cap', w', hrun, hc⟩ := clone_core (t := 77) (ty := 77) (z := .int .u64 0) (n := n) (c := c) (w := w) (a := a) (xs := xs) Tryz.underlying77 hi hz (by rw [hsz]; rfl) (by omega) (by rw [hl, hsz]; omega) hr h1 (by omega) (by rw [hby]; omega)
    exact ⟨a', n, cap', w', hrun, a', cap', rfl, by rw [hsz] at hc; exact hc⟩

/-! ### Memory nodes -/

structure NodeS where
  words : List Int
  down : Bool

/-- A memory node at block b, its words in block bw. -/
structure NodeAt (w : World) (b bw : Nat) (n : NodeS) : Prop where
  node : Blk w b [.slice (some ⟨bw, 0, none⟩) n.words.length n.words.length, .bool n.down] 79
  words : Blk w bw (us n.words) 22
  len : n.words.length ≤ 2048
  len2 : 8 ≤ n.words.length
  wf : ∀ x ∈ n.words, 0 ≤ x ∧ x < 18446744073709551616

theorem NodeAt.ne {w : World} {b bw : Nat} {n : NodeS} (h : NodeAt w b bw n) : b ≠ bw := h.node.ne h.words (by decide)

theorem NodeAt.keep {M : Nat → Prop} {w w' : World} {b bw : Nat} {n : NodeS} (h : NodeAt w b bw n) (hk : Keep M w w') (h1 : ¬ M b) (h2 : ¬ M bw) : NodeAt w' b bw n :=
  ⟨hk.blk h.node h1, hk.blk h.words h2, h.len, h.len2, h.wf⟩

theorem NodeAt.new {w w' : World} {b bw : Nat} {n : NodeS} (h : NodeAt w b bw n) (hk : New w w') : NodeAt w' b bw n := h.keep hk id id

def NodeS.get (n : NodeS) (i : Nat) : Int := n.words.getD i 0

theorem NodeS.get_some {n : NodeS} {i : Nat} (h : i < n.words.length) : n.words[i]? = some (n.get i) := by
  simp [NodeS.get, h]

theorem NodeAt.wf_get {w : World} {b bw : Nat} {n : NodeS} (h : NodeAt w b bw n) (i : Nat) : 0 ≤ n.get i ∧ n.get i < 18446744073709551616 := by
  by_cases hi : i < n.words.length
  · exact h.wf _ (List.mem_of_getElem? (NodeS.get_some hi))
  · simp [NodeS.get, hi]

theorem NodeAt.cell {w : World} {b bw : Nat} {n : NodeS} (h : NodeAt w b bw n) {i : Nat} (hi : i < n.words.length) : w.cell? ⟨bw, i, none⟩ = some (.int .u64 (n.get i)) :=
  h.words.cell (us_get (NodeS.get_some hi))

theorem Up_c {w : World} {b bw : Nat} {n : NodeS} (h : NodeAt w b bw n) : Does 67 [.pointer (some ⟨b, 0, none⟩)] w fun v w' => v = .bool (!n.down) ∧ w' = w := by
  refine does Tryz.func67 ?_
  rw [memnode_Node_Up_vc]
  exact ⟨n.down, h.node.cell rfl, rfl, rfl⟩

theorem Lines_c {w : World} {b bw : Nat} {n : NodeS} (h : NodeAt w b bw n) : Does 66 [.pointer (some ⟨b, 0, none⟩)] w fun v w' => v = .int .i64 (n.words.length / 8 : Nat) ∧ w' = w := by
  refine does Tryz.func66 ?_
  rw [memnode_Node_Lines_vc]
  have := h.len
  refine ⟨_, _, _, h.node.cell rfl, ?_, rfl⟩
  rw [Int.tdiv_eq_ediv_of_nonneg (by omega), w64 (by omega) (by omega)]
  rfl

theorem Boot_c {w : World} {b bw : Nat} {n : NodeS} (h : NodeAt w b bw n) : Does 35 [.pointer (some ⟨b, 0, none⟩)] w fun v w' => v = .int .u64 (n.get 1) ∧ w' = w := by
  refine does Tryz.func35 ?_
  rw [memnode_Node_Boot_vc]
  have := h.len2
  refine ⟨_, _, _, h.node.cell rfl, idxS_mk (by omega) (by omega) ⟨_, h.cell (by omega), rfl, rfl⟩⟩

theorem NodeAt.setDown {w : World} {b bw : Nat} {n : NodeS} (h : NodeAt w b bw n) (d : Bool) : NodeAt (w.setCell ⟨b, 1, none⟩ (.bool d)) b bw { n with down := d } :=
  ⟨h.node.setCell _, h.words.setCell_ne h.ne.symm _, h.len, h.len2, h.wf⟩

theorem us_set (l : List Int) (i : Nat) (x : Int) : (us l).set i (.int .u64 x) = us (l.set i x) := by simp [us]

theorem NodeAt.setWord {w : World} {b bw : Nat} {n : NodeS} (h : NodeAt w b bw n) (i : Nat) {x : Int} (h0 : 0 ≤ x) (h1 : x < 18446744073709551616) : NodeAt (w.setCell ⟨bw, i, none⟩ (.int .u64 x)) b bw { n with words := n.words.set i x } := by
  refine ⟨?_, ?_, by simpa using h.len, by simpa using h.len2, ?_⟩
  · have := h.node.setCell_ne (i := i) h.ne (.int .u64 x)
    simpa using this
  · have := h.words.setCell (i := i) (.int .u64 x)
    rw [us_set] at this
    exact this
  · intro y hy
    rcases List.mem_or_eq_of_mem_set hy with hy | rfl
    · exact h.wf y hy
    · exact ⟨h0, h1⟩

theorem Fail_c {w : World} {b bw : Nat} {n : NodeS} (h : NodeAt w b bw n) : Does 24 [.pointer (some ⟨b, 0, none⟩)] w fun v w' => v = .tuple #[] ∧ NodeAt w' b bw { n with down := true } ∧ Keep (fun k => k = b) w w' := by
  refine does Tryz.func24 ?_
  rw [memnode_Node_Fail_vc]
  refine ⟨⟨_, h.node.cell rfl⟩, h.node.frozen, ?_⟩
  rintro w1 rfl
  exact ⟨rfl, h.setDown true, keep_setCell _ _ _ _⟩

def NodeS.back (n : NodeS) : NodeS × Bool := if n.down = true ∧ n.get 1 < 31 then (⟨n.words.set 1 (n.get 1 + 1), false⟩, true) else (n, false)

theorem Back_c {w : World} {b bw : Nat} {n : NodeS} (h : NodeAt w b bw n) : Does 20 [.pointer (some ⟨b, 0, none⟩)] w fun v w' => v = .bool n.back.2 ∧ NodeAt w' b bw n.back.1 ∧ Keep (fun k => k = b ∨ k = bw) w w' := by
  refine does Tryz.func20 ?_
  rw [memnode_Node_Back_vc]
  have hl := h.len2
  have hw := h.wf_get 1
  refine ⟨_, h.node.cell rfl, bif_not (fun hd => ?_) (fun hd => ?_)⟩
  · have : n.back = (n, false) := by simp [NodeS.back, hd]
    rw [this]
    exact ⟨rfl, h, Keep.refl _ _⟩
  · refine at_call (Boot_c h) ?_
    rintro v w1 ⟨rfl, rfl⟩
    refine ⟨_, rfl, bif_dec (fun hb => ?_) (fun hb => ?_)⟩
    · have : n.back = (n, false) := by
        have : ¬ n.get 1 < 31 := by omega
        simp [NodeS.back, this]
      rw [this]
      exact ⟨rfl, h, Keep.refl _ _⟩
    · refine ⟨⟨_, h.node.cell rfl⟩, h.node.frozen, ?_⟩
      rintro w2 rfl
      have h2 := h.setDown false
      refine ⟨_, _, _, h2.node.cell rfl, idxS_mk (by omega) (by simpa using by omega) ⟨_, h2.cell (i := 1) (by simpa using by omega), idxS_mk (by omega) (by simpa using by omega) ⟨⟨_, h2.cell (i := 1) (by simpa using by omega)⟩, h2.words.frozen, ?_⟩⟩⟩
      rintro w3 rfl
      have e : n.back = (⟨n.words.set 1 (n.get 1 + 1), false⟩, true) := by
        have : n.get 1 < 31 := by omega
        simp [NodeS.back, hd, this]
      rw [e]
      refine ⟨rfl, ?_, ((keep_setCell _ _ _ _).mono fun _ _ h => .inl h).setCell (.inl (.inr rfl)) _⟩
      have e2 : IntKind.u64.wrap (NodeS.get { words := n.words, down := false } 1 + 1) = n.get 1 + 1 := wu64 (by show 0 ≤ n.get 1 + 1; omega) (by show n.get 1 + 1 < _; omega)
      rw [e2]
      exact h2.setWord 1 (by omega) (by omega)

def NodeS.chk (n : NodeS) (at_ count : Int) : Int :=
  if count < 1 ∨ at_ < 0 ∨ (n.words.length : Int) ≤ at_ ∨ (n.words.length : Int) - at_ < count then 2 else if n.down = true then 4 else 0

theorem NodeS.chk_zero {n : NodeS} {at_ count : Int} (h : n.chk at_ count = 0) : 1 ≤ count ∧ 0 ≤ at_ ∧ at_ + count ≤ n.words.length ∧ n.down = false := by
  unfold NodeS.chk at h
  split at h
  · omega
  · rename_i hc
    split at h
    · omega
    · rename_i hd
      exact ⟨by omega, by omega, by omega, by simpa using hd⟩

theorem check_c {w : World} {b bw : Nat} {n : NodeS} (h : NodeAt w b bw n) (at_ count : Int) : Does 62 [.pointer (some ⟨b, 0, none⟩), .int .i64 at_, .int .i64 count] w fun v w' => v = .int .i64 (n.chk at_ count) ∧ w' = w := by
  refine does Tryz.func62 ?_
  rw [memnode_Node_check_vc]
  have hl := h.len
  refine bif_dec (fun h1 => ⟨?_, rfl⟩) (fun h1 => bif_dec (fun h2 => ⟨?_, rfl⟩) (fun h2 => ⟨_, _, _, h.node.cell rfl, bif_dec (fun h3 => ⟨?_, rfl⟩) (fun h3 => ⟨_, _, _, h.node.cell rfl, bif_dec (fun h4 => ⟨?_, rfl⟩) (fun h4 => ⟨_, h.node.cell rfl, bif_b (fun h5 => ⟨?_, rfl⟩) (fun h5 => ⟨?_, rfl⟩)⟩)⟩)⟩))
  · rw [NodeS.chk, if_pos (.inl h1)]
  · rw [NodeS.chk, if_pos (.inr (.inl h2))]
  · rw [NodeS.chk, if_pos (.inr (.inr (.inl h3)))]
  · rw [w64 (by omega) (by omega)] at h4
    rw [NodeS.chk, if_pos (.inr (.inr (.inr (by omega))))]
  · rw [w64 (by omega) (by omega)] at h4
    rw [NodeS.chk, if_neg (by omega), if_pos h5]
  · rw [w64 (by omega) (by omega)] at h4
    rw [NodeS.chk, if_neg (by omega), if_neg (by simp [h5])]

def NodeS.read (n : NodeS) (at_ count : Int) : List Int := (n.words.drop at_.toNat).take count.toNat

theorem us_take (l : List Int) (k : Nat) : (us l).take k = us (l.take k) := by simp [us]
theorem us_drop (l : List Int) (k : Nat) : (us l).drop k = us (l.drop k) := by simp [us]
theorem us_append (l m : List Int) : us l ++ us m = us (l ++ m) := by simp [us]

/-- What Read leaves: nothing, or a new row with the words. -/
def ReadPost (n : NodeS) (at_ count : Int) (w : World) (v : Value) (w' : World) : Prop :=
  (n.chk at_ count ≠ 0 ∧ v = .tuple #[.slice none 0 0, .int .i64 (n.chk at_ count)] ∧ w' = w) ∨
  (n.chk at_ count = 0 ∧ ∃ a cap, v = .tuple #[.slice (some a) count.toNat cap, .int .i64 0] ∧ New w w' ∧ Owns w' 22 1 (some a) count.toNat cap (us (n.read at_ count)) ∧ w.heap.size ≤ a.block)

theorem NodeS.read_len {n : NodeS} {at_ count : Int} (h : n.chk at_ count = 0) : (n.read at_ count).length = count.toNat := by
  obtain ⟨h1, h2, h3, _⟩ := NodeS.chk_zero h
  simp [NodeS.read]
  omega

theorem Read_c {w : World} {b bw : Nat} {n : NodeS} (h : NodeAt w b bw n) (at_ count : Int) : Does 43 [.pointer (some ⟨b, 0, none⟩), .int .i64 at_, .int .i64 count] w (ReadPost n at_ count w) := by
  refine does Tryz.func43 ?_
  rw [memnode_Node_Read_vc]
  refine at_call (check_c h at_ count) ?_
  rintro v w1 ⟨rfl, rfl⟩
  refine ⟨_, rfl, bif_bne (fun hc => ?_) (fun hc => ?_)⟩
  · exact .inl ⟨hc, rfl, rfl⟩
  · obtain ⟨h1, h2, h3, _⟩ := NodeS.chk_zero hc
    have hl := h.len
    refine ⟨_, _, _, h.node.cell rfl, ?_⟩
    rw [w64 (by omega) (by omega)]
    refine sl3_mk h2 (by omega) h3 (by omega) (by omega) ?_
    intro a ha
    rcases ha with rfl | ⟨hx, _⟩
    · have hrd : Rd w1 (some ⟨bw, 0 + at_.toNat * 1, none⟩) (us (n.read at_ count)) := by
        refine rd_blk h.words ?_
        rw [us_len, NodeS.read_len hc, us_drop, us_take, NodeS.read]
        simp
      have e : (at_ + count).toNat - at_.toNat = count.toNat := by omega
      rw [e]
      refine at_call (Clone_u64_c (by rw [us_len, NodeS.read_len hc]) hrd (us_single _) (by omega) (by simp)) ?_
      rintro v w2 ⟨a', cap, rfl, hn, ho, hb, hi⟩
      refine ⟨_, _, _, rfl, .inr ⟨hc, ?_⟩⟩
      cases a' with
      | none => simp at hi
      | some a' =>
        refine ⟨a', cap, rfl, hn, ho, ?_⟩
        rcases ho.2 with ⟨hx, _⟩ | ⟨g, cur, hx, _⟩
        · cases hx
        · exact hb _ ⟨a'.off, by simp at hx; rw [hx]⟩
    · omega

theorem run_copy {P : Program} {w : World} {t ty e : TypeId} {i : TypeInfo} (ht : P.underlying t = some (.slice e)) (hi : P.info? e = some i) (hsz : i.size = 1) {b o dl dc : Nat} {s : Option Addr} {m c : Nat} {news : List Value} (hl : news.length = m)
    (hm : m ≤ dl) (hs : Rd w s news) (hn : s = none → m = 0) (hw : wrAt w ⟨b, o, none⟩ 0 news) : (Builtin.copy_ #[t, t] ty #[.slice (some ⟨b, o, none⟩) dl dc, .slice s m c]).run P w = .ok (.int .i64 m) (puts w ⟨b, o, none⟩ 0 news) := by
  have hmin : Nat.min m dl = m := Nat.min_eq_left hm
  have hst := run_storeCells (P := P) hw
  cases s with
  | none =>
    have := hn rfl
    subst this
    have : news = [] := List.eq_nil_of_length_eq_zero hl
    subst this
    simp [Builtin.copy_, run_underlying ht, Builtin.lenOf, hmin, sizeOf, typeInfo, hi, Builtin.firstCells, goInt, storeCells, puts]
  | some s =>
    have hld : (loadCells s m).run P w = .ok news.toArray w := by
      have : cellsAt w s 0 news := by
        rcases hs with rfl | ⟨sb, so, he, hc⟩
        · trivial
        · simp at he
          subst he
          exact cellsAt_of fun j v hj => by simpa using hc j v hj
      have := Eng.run_loadCellsFrom (P := P) (acc := #[]) this
      rw [hl] at this
      simpa [loadCells] using this
    simp [Builtin.copy_, run_underlying ht, Builtin.lenOf, hmin, sizeOf, typeInfo, hi, Builtin.firstCells, goInt, hsz, hld, hst]

def NodeS.write (n : NodeS) (at_ : Nat) (ws : List Int) : NodeS := { n with words := n.words.take at_ ++ ws ++ n.words.drop (at_ + ws.length) }

theorem NodeAt.write {w : World} {b bw : Nat} {n : NodeS} (h : NodeAt w b bw n) {o : Nat} {ws : List Int} (hl : o + ws.length ≤ n.words.length) (hw : ∀ x ∈ ws, 0 ≤ x ∧ x < 18446744073709551616) : NodeAt (puts w ⟨bw, o, none⟩ 0 (us ws)) b bw (n.write o ws) := by
  have hlen : (n.write o ws).words.length = n.words.length := by simp [NodeS.write]; omega
  refine ⟨?_, ?_, by rw [hlen]; exact h.len, by rw [hlen]; exact h.len2, ?_⟩
  · rw [hlen]
    exact (keep_puts _ _ _ _ _).blk h.node h.ne
  · have := h.words.puts (o := o) (i := 0) (vs := us ws)
    rw [splice_eq (by rw [us_len, us_len]; omega), Nat.add_zero, us_len, us_take, us_drop, us_append, us_append] at this
    exact this
  · intro x hx
    simp only [NodeS.write, List.mem_append] at hx
    rcases hx with (hx | hx) | hx
    · exact h.wf x (List.mem_of_mem_take hx)
    · exact hw x hx
    · exact h.wf x (List.mem_of_mem_drop hx)

theorem Write_c {w : World} {b bw : Nat} {n : NodeS} (h : NodeAt w b bw n) (at_ : Int) {a : Option Addr} {c : Nat} {ws : List Int} (hr : Rd w a (us ws)) (hw : ∀ x ∈ ws, 0 ≤ x ∧ x < 18446744073709551616) (hn : a = none → ws.length = 0) :
    Does 75 [.pointer (some ⟨b, 0, none⟩), .int .i64 at_, .slice a ws.length c] w fun v w' => v = .int .i64 (n.chk at_ ws.length) ∧
      NodeAt w' b bw (if n.chk at_ ws.length = 0 then n.write at_.toNat ws else n) ∧ Keep (fun k => k = bw) w w' := by
  refine does Tryz.func75 ?_
  rw [memnode_Node_Write_vc]
  refine at_call (check_c h at_ _) ?_
  rintro v w1 ⟨rfl, rfl⟩
  refine ⟨_, rfl, bif_bne (fun hc => ?_) (fun hc => ?_)⟩
  · rw [if_neg hc]
    exact ⟨rfl, h, Keep.refl _ _⟩
  · obtain ⟨h1, h2, h3, _⟩ := NodeS.chk_zero hc
    have hl := h.len
    rw [if_pos hc, hc]
    refine ⟨_, _, _, h.node.cell rfl, sl3_mk h2 (by omega) (by omega) (by omega) (by omega) ?_⟩
    intro a' ha
    rcases ha with rfl | ⟨hx, _⟩
    · obtain ⟨i, hi, hz, hsz, hby⟩ := infoB (T := 22) (z := .int .u64 0) (n := 1) (m := 8) (by kernel_rfl)
      have hrun := run_copy (P := Tryz.prog) (w := w1) (t := 77) (ty := 3) (b := bw) (o := 0 + at_.toNat * 1) (dl := (n.words.length : Int).toNat - at_.toNat) (dc := (n.words.length : Int).toNat - at_.toNat) (c := c) Tryz.underlying77 hi hsz (us_len ws) (by omega) hr hn
        (wrAt_blk h.words (by rw [us_len, us_len]; omega) (us_single ws))
      refine ⟨_, _, hrun, rfl, ?_, keep_puts _ _ _ _ _⟩
      have := h.write (o := at_.toNat) (ws := ws) (by omega) hw
      simpa using this
    · omega

def NodeS.cas (n : NodeS) (at_ old new : Int) : NodeS := if n.get at_.toNat = old then { n with words := n.words.set at_.toNat new } else n

theorem Cas_c {w : World} {b bw : Nat} {n : NodeS} (h : NodeAt w b bw n) (at_ old new : Int) (h0 : 0 ≤ new) (h1 : new < 18446744073709551616) :
    Does 84 [.pointer (some ⟨b, 0, none⟩), .int .i64 at_, .int .u64 old, .int .u64 new] w fun v w' =>
      v = .tuple #[.int .u64 (if n.chk at_ 1 = 0 then n.get at_.toNat else 0), .int .i64 (n.chk at_ 1)] ∧ NodeAt w' b bw (if n.chk at_ 1 = 0 then n.cas at_ old new else n) ∧ Keep (fun k => k = bw) w w' := by
  refine does Tryz.func84 ?_
  rw [memnode_Node_Cas_vc]
  refine at_call (check_c h at_ _) ?_
  rintro v w1 ⟨rfl, rfl⟩
  refine ⟨_, rfl, bif_bne (fun hc => ?_) (fun hc => ?_)⟩
  · rw [if_neg hc, if_neg hc]
    exact ⟨rfl, h, Keep.refl _ _⟩
  · obtain ⟨b1, b2, b3, _⟩ := NodeS.chk_zero hc
    rw [if_pos hc, if_pos hc, hc]
    have ea : 0 + at_.toNat * 1 = at_.toNat := by omega
    refine ⟨_, _, _, h.node.cell rfl, idxS_mk b2 (by omega) ?_⟩
    rw [ea]
    refine ⟨_, h.cell (by omega), bif_beq (fun he => ?_) (fun he => ?_)⟩
    · refine ⟨_, _, _, h.node.cell rfl, idxS_mk b2 (by omega) ?_⟩
      rw [ea]
      refine ⟨⟨_, h.cell (by omega)⟩, h.words.frozen, ?_⟩
      rintro w2 rfl
      refine ⟨rfl, ?_, keep_setCell _ _ _ _⟩
      rw [NodeS.cas, if_pos he]
      exact h.setWord _ h0 h1
    · rw [NodeS.cas, if_neg he]
      exact ⟨rfl, h, Keep.refl _ _⟩

def NodeS.add (n : NodeS) (at_ by_ : Int) : NodeS := { n with words := n.words.set at_.toNat (IntKind.u64.wrap (n.get at_.toNat + by_)) }

theorem wrap_u64_wf (x : Int) : 0 ≤ IntKind.u64.wrap x ∧ IntKind.u64.wrap x < 18446744073709551616 := by
  simp only [IntKind.wrap, IntKind.bits, IntKind.signed]; simp; omega

theorem Add_c {w : World} {b bw : Nat} {n : NodeS} (h : NodeAt w b bw n) (at_ by_ : Int) :
    Does 85 [.pointer (some ⟨b, 0, none⟩), .int .i64 at_, .int .u64 by_] w fun v w' =>
      v = .tuple #[.int .u64 (if n.chk at_ 1 = 0 then n.get at_.toNat else 0), .int .i64 (n.chk at_ 1)] ∧ NodeAt w' b bw (if n.chk at_ 1 = 0 then n.add at_ by_ else n) ∧ Keep (fun k => k = bw) w w' := by
  refine does Tryz.func85 ?_
  rw [memnode_Node_Add_vc]
  refine at_call (check_c h at_ _) ?_
  rintro v w1 ⟨rfl, rfl⟩
  refine ⟨_, rfl, bif_bne (fun hc => ?_) (fun hc => ?_)⟩
  · rw [if_neg hc, if_neg hc]
    exact ⟨rfl, h, Keep.refl _ _⟩
  · obtain ⟨b1, b2, b3, _⟩ := NodeS.chk_zero hc
    rw [if_pos hc, if_pos hc, hc]
    have ea : 0 + at_.toNat * 1 = at_.toNat := by omega
    refine ⟨_, _, _, h.node.cell rfl, idxS_mk b2 (by omega) ?_⟩
    rw [ea]
    refine ⟨_, h.cell (by omega), _, _, _, h.node.cell rfl, idxS_mk b2 (by omega) ?_⟩
    rw [ea]
    refine ⟨_, h.cell (by omega), idxS_mk b2 (by omega) ?_⟩
    rw [ea]
    refine ⟨⟨_, h.cell (by omega)⟩, h.words.frozen, ?_⟩
    rintro w2 rfl
    exact ⟨rfl, h.setWord _ (wrap_u64_wf _).1 (wrap_u64_wf _).2, keep_setCell _ _ _ _⟩

theorem reps_one (n : Nat) (v : Value) : reps n [v] = List.replicate n v := by
  induction n with
  | zero => rfl
  | succ n ih => simp [reps, List.replicate_succ] at *

theorem MemNew_c {w : World} {lines : Int} (h0 : 1 ≤ lines) (h1 : lines ≤ 256) : Does 47 [.int .i64 lines] w fun v w' =>
    v = .tuple #[.pointer (some ⟨w.heap.size + 1, 0, none⟩), .int .i64 0] ∧ NodeAt w' (w.heap.size + 1) w.heap.size ⟨List.replicate (8 * lines.toNat) 0, false⟩ ∧ New w w' ∧ w'.heap.size = w.heap.size + 2 := by
  refine does Tryz.func47 ?_
  rw [memnode_New_vc]
  refine bif_dec (fun h => by omega) (fun _ => bif_dec (fun h => by omega) (fun _ => ?_))
  have e : IntKind.i64.wrap (lines * 8) = lines * 8 := w64 (by omega) (by omega)
  rw [e]
  refine ⟨by omega, by omega, by omega, by omega, ?_⟩
  rintro b1 w1 rfl rfl b2 w2 rfl rfl
  have e2 : (lines * 8).toNat = 8 * lines.toNat := by omega
  rw [e2, reps_one]
  have hs : (w.alloc (.cells (List.replicate (8 * lines.toNat) (Value.int .u64 0)).toArray 22)).heap.size = w.heap.size + 1 := by simp
  refine ⟨by rw [hs], ?_, (new_alloc _ _).alloc _, by simp⟩
  refine ⟨?_, ?_, by simp; omega, by simp; omega, ?_⟩
  · have := blk_alloc (w.alloc (.cells (List.replicate (8 * lines.toNat) (Value.int .u64 0)).toArray 22)) [.slice (some ⟨w.heap.size, 0, none⟩) (8 * lines.toNat) (8 * lines.toNat), .bool false] 79
    rw [hs] at this
    simpa using this
  · have := (blk_alloc w (List.replicate (8 * lines.toNat) (Value.int .u64 0)) 22).alloc (.cells #[.slice (some ⟨w.heap.size, 0, none⟩) (8 * lines.toNat) (8 * lines.toNat), .bool false] 79)
    simpa [us] using this
  · intro x hx
    simp only [List.mem_replicate] at hx
    omega
end Go.Proofs.YteaknokogenndaaGreat
