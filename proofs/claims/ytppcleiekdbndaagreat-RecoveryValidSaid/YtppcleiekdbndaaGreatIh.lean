/- Heap lines; numbers and records that are read, appended and handed out. -/
import Derived.Test.YtppcleiekdbndaaGreatHand
import Derived.Test.YtppcleiekdbndaaGreatCodeLay
set_option linter.unusedVariables false
namespace Go.Proofs.YtppcleiekdbndaaGreat
open Go.Eng

/-- A number of a slice of numbers. -/
theorem rd_i {u : World} {a : Option Addr} {l : List Int} (h : Rd u a (is l)) {i : Nat} {x : Int} (hx : l[i]? = some x) {z : Int} (hz : z = i) {n : Nat} (hn : n = l.length) {K : Addr → Prop}
    (hk : ∀ b o, (∀ y, New u y → y.cell? ⟨b, o, none⟩ = some (.int .i64 x)) → K ⟨b, o, none⟩) : idxS a n z 1 K := by
  subst hz hn
  have hlt := lt_of_get hx
  have hxx : (is l)[i]? = some (.int .i64 x) := by simp [is, hx]
  rcases h with he | ⟨b, o, rfl, hc⟩
  · rw [he] at hxx; cases hxx
  · refine idxS_mk (by omega) (by omega) ?_
    have := hk b (o + i) fun y hy => (Rd.new hy (.inr ⟨b, o, rfl, hc⟩)).cell hxx
    simpa using this

def inHeap (line lines : Int) : Bool := decide (98 ≤ lines ∧ lines ≤ 256 ∧ 96 ≤ line ∧ line < lines)

theorem InHeap_c (w : World) (line lines : Int) : Does 216 [.int .i64 line, .int .i64 lines] w fun v w' => v = .bool (inHeap line lines) ∧ w' = w := by
  refine does Tryz.func216 ?_
  rw [layout_InHeap_vc]
  have h1 : Does 243 [.int .i64 lines] w fun v w' => v = .bool (decide (98 ≤ lines ∧ lines ≤ 256)) ∧ w' = w := by
    refine does Tryz.func243 ?_
    rw [layout_isLines_vc]
    refine bif_dec (fun h => ⟨?_, rfl⟩) (fun h => ⟨?_, rfl⟩)
    · have h : 98 ≤ lines := h; congr 1; simp [h]
    · have h : ¬ 98 ≤ lines := h; congr 1; simp [h]
  refine at_call h1 ?_
  rintro v w1 ⟨rfl, rfl⟩
  unfold inHeap
  refine ⟨_, rfl, bif_dec (fun h => bif_dec (fun h2 => ⟨?_, rfl⟩) (fun h2 => ⟨?_, rfl⟩)) (fun h => ⟨?_, rfl⟩)⟩
  · have h2 : 96 ≤ line := h2; congr 1; simp [h.1, h.2, h2]
  · have h2 : ¬ 96 ≤ line := h2; congr 1; simp [h2]
  · congr 1; simp; intro a b; exact absurd ⟨a, b⟩ h

theorem RInHeap_c (w : World) (line lines : Int) : Does 186 [.int .i64 line, .int .i64 lines] w fun v w' => v = .bool (inHeap line lines) ∧ w' = w := by
  refine does Tryz.func186 ?_
  rw [bodegaref1_InHeap_vc]
  unfold inHeap
  refine bif_dec (fun h => bif_dec (fun h1 => bif_dec (fun h2 => ⟨?_, rfl⟩) (fun h2 => ⟨?_, rfl⟩)) (fun h1 => ⟨?_, rfl⟩)) (fun h => ⟨?_, rfl⟩)
  · have h : 98 ≤ lines := h; have h2 : 96 ≤ line := h2; congr 1; simp [h, h1, h2]
  · have h2 : ¬ 96 ≤ line := h2; congr 1; simp [h2]
  · congr 1; simp [h1]
  · have h : ¬ 98 ≤ lines := h; congr 1; simp [h]

/-- A record is handed out. -/
theorem out_k {ρ : Type} {cells : ρ → List Value} {ex : (ρ → Prop) → Prop} (mk : ∀ (K : ρ → Prop) r, K r → ex K) (hs : ∀ r, ∀ u ∈ cells r, single u = true) {u : World} {b1 b2 : Nat} {r : ρ} {zs : List Value} {T : TypeId} (h1 : Blk u b1 zs T) (hl : zs.length = (cells r).length) (h2 : Blk u b2 (cells r) T) {K : ρ → World → Prop} (hk : ∀ w', Keep (fun k => k = b1) u w' → K r w') :
    ex fun r => cellsAt u ⟨b2, 0, none⟩ 0 (cells r) ∧ wrAt u ⟨b1, 0, none⟩ 0 (cells r) ∧ ∀ w4, w4 = puts u ⟨b1, 0, none⟩ 0 (cells r) → ex fun res => cellsAt w4 ⟨b1, 0, none⟩ 0 (cells res) ∧ w4 = w4 ∧ K res w4 := by
  refine mk _ r ⟨cellsAt_blk h2 (by simp), wrAt_blk h1 (by rw [hl]; omega) (hs r), fun w4 hw => ?_⟩
  have hk4 : Keep (fun k => k = b1) u w4 := by rw [hw]; exact keep_puts _ _ _ _ _
  have hz : Blk w4 b1 (cells r) T := by
    rw [hw]
    have := h1.puts (o := 0) (i := 0) (vs := cells r)
    rw [Nat.add_zero, splice_all hl.symm] at this
    exact this
  exact mk _ r ⟨cellsAt_blk hz (by simp), rfl, hk w4 hk4⟩

theorem pushI_k {u : World} {a : Option Addr} {n cap : Nat} {L : List Int} (ho : Owns u 3 1 a n cap (is L)) {x : Int} (hb1 : n ≤ 1000000) {K : Nat → Option Addr → Nat → Nat → World → Prop}
    (hk : ∀ b ap cap' w3, b = u.heap.size → Owns w3 3 1 ap (n + 1) cap' (is (L ++ [x])) → Keep (isB a) u w3 → (∀ k, isB ap k → isB a k ∨ u.heap.size ≤ k) → K b ap (n + 1) cap' w3) :
    ∀ b1 w2, b1 = u.heap.size → w2 = u.alloc (.cells #[.int .i64 x] 3) → ∃ (ap : Option Addr) (ap_len ap_cap : Nat), ∃ w3, (Builtin.append_ #[33, 33] 33 #[(.slice a n cap), (.slice (some ⟨b1, 0, none⟩) 1 1)]).run Tryz.prog w2 = .ok (.slice ap ap_len ap_cap) w3 ∧ K b1 ap ap_len ap_cap w3 := by
  obtain ⟨inf, hi, hz, hsz, hby⟩ := infoB (T := 3) (z := .int .i64 0) (n := 1) (m := 8) (by kernel_rfl)
  rw [← hsz] at ho
  refine push_k (vs := [.int .i64 x]) Tryz.underlying33 hi hz (by rw [hsz]; rfl) (by omega) ho (by rw [hsz]; rfl) (by intro v hv; simp at hv; subst hv; rfl) (by omega) (by omega) ?_
  intro b ap cap' w3 h1 h2
  have e : is L ++ [Value.int .i64 x] = is (L ++ [x]) := by simp [is]
  rw [hsz, e] at h2
  exact hk b ap cap' w3 h1 h2

theorem owns_some {w : World} {e sz n cap : Nat} {a : Option Addr} {xs : List Value} (h : Owns w e sz a n cap xs) (hn : 0 < n) : ∃ g cur, a = some ⟨g, 0, none⟩ ∧ Blk w g cur e ∧ n * sz ≤ cur.length := by
  rcases h.2 with ⟨_, e, _⟩ | ⟨g, cur, rfl, hg, hnc, _, hcl, _⟩
  · omega
  · exact ⟨g, cur, rfl, hg, by rw [hcl]; exact Nat.mul_le_mul_right _ hnc⟩

def bs (l : List Bool) : List Value := l.map .bool

theorem wrap_I64 (x : Int) : I64 (IntKind.i64.wrap x) := by
  unfold I64
  simp only [IntKind.wrap, IntKind.bits, IntKind.signed]
  simp
  omega

theorem bs_set (B : List Bool) (i : Nat) (x : Bool) : (bs B).set i (.bool x) = bs (B.set i x) := by simp [bs]
end Go.Proofs.YtppcleiekdbndaaGreat
