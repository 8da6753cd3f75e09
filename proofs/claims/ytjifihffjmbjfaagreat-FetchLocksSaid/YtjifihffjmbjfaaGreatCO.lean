/- Jobs of package commit made of raw numbers. -/
import Derived.Test.YtjifihffjmbjfaaGreatCV3
import Derived.Test.YtjifihffjmbjfaaGreatPg
set_option linter.unusedVariables false
namespace Go.Proofs.YtjifihffjmbjfaaGreat
open Go.Eng

theorem Own_c (w : World) (r : CommitJobR) : Does 24 [r.val] w fun x w' => x = (refJob r).val ∧ New w w' := by
  refine does Tryz.func24 ?_
  rw [bodegalaw12_own_vc]
  rintro b1 w1 hb1 hw1
  obtain ⟨hz1, hn1⟩ := box_new hb1 hw1
  have hz1 : Blk w1 b1 r.cells 60 := hz1
  clear hw1
  rintro b2 w2 hb2 hw2
  obtain ⟨hz2, hn2⟩ := box_new hb2 hw2
  have hz2 : Blk w2 b2 (Bodegaref9CommitJobR.cells ⟨0, 0, 0, ⟨0, none, 0, 0⟩, none, 0, 0, none, 0, 0⟩) 66 := hz2
  clear hw2
  have hz12 := New.blk hn2 hz1
  have hs := hn1.size
  refine ⟨_, hz12.cell (i := 0) rfl, _, hz12.cell (i := 1) rfl, _, hz12.cell (i := 2) rfl, ApiViewR.mk_ex r.View ⟨cellsAt_blk hz12 rfl, _, _, _, hz12.cell (i := 5) rfl, _, _, _, hz12.cell (i := 6) rfl, ?_⟩⟩
  refine put_k (vs := (refJob r).cells) hz2 rfl (Bodegaref9CommitJobR.single _) fun w3 hz3 hk3 => ?_
  refine Bodegaref9CommitJobR.mk_ex (refJob r) ⟨cellsAt_blk hz3 rfl, rfl, rfl, ?_⟩
  exact (hn1.new hn2).trans hk3 fun k hlt e => by omega

/-! ### Cells of rows that one has -/

theorem row_set {α : Type} {cells : α → List Value} {sz : Nat} (hsz : ∀ x, (cells x).length = sz) {l : List α} {i k : Nat} {x y : α} {v : Value} (hg : l[i]? = some x) (hk : k < sz) (he : (cells x).set k v = cells y) : (l.map cells).flatten.set (i * sz + k) v = ((l.set i y).map cells).flatten := by
  rw [flat_set (rows := l.map cells) (fun r hr => by obtain ⟨z, _, rfl⟩ := List.mem_map.1 hr; exact hsz z) v (r := cells x) (by simp [hg]) hk, he, List.map_set]

theorem set_row {α : Type} {cells : α → List Value} {sz : Nat} (hsz : ∀ x, (cells x).length = sz) {u : World} {e : TypeId} {a : Option Addr} {n cap : Nat} {l : List α} (ho : Owns u e sz a n cap (l.map cells).flatten) {i k : Nat} {x y : α} {v : Value} (hg : l[i]? = some x) (hn : n = l.length) (hk : k < sz) (he : (cells x).set k v = cells y) {z : Int} (hz : z = i)
    {F : Addr → Addr} (hF : ∀ g o, F ⟨g, o, none⟩ = ⟨g, o + k, none⟩) {K : Addr → World → Prop} (hK : ∀ ad u', Keep (isB a) u u' → Owns u' e sz a n cap ((l.set i y).map cells).flatten → K ad u') :
    idxS a n z sz fun ad => (∃ x, u.cell? (F ad) = some x) ∧ u.frozen? (F ad) = false ∧ ∀ u', u' = u.setCell (F ad) v → K ad u' := by
  subst hz hn
  have hlt := lt_of_get hg
  obtain ⟨g, cur, rfl, hgb, hgl⟩ := owns_some ho (by omega)
  have hm : (i + 1) * sz ≤ l.length * sz := Nat.mul_le_mul_right _ hlt
  rw [Nat.succ_mul] at hm
  refine idxS_mk (by omega) (by omega) ?_
  rw [hF, Int.toNat_natCast, Nat.zero_add]
  have hlt2 : i * sz + k < cur.length := by omega
  refine ⟨⟨_, hgb.cell (List.getElem?_eq_getElem hlt2)⟩, hgb.frozen, fun u' hu => hK _ u' ?_ ?_⟩
  · rw [hu]
    exact (keep_setCell _ _ _ _).mono fun k' _ h => ⟨0, by rw [h]⟩
  · have := Owns.setCell ho (i := i * sz + k) (by omega) v
    rw [row_set hsz hg hk he] at this
    rw [hu]
    exact this

/-! ### A job made of raw numbers -/

abbrev TSn : TypeId := 94
abbrev TCJ : TypeId := 60
abbrev TR12 : TypeId := 62
def zj : List Value := CommitJobR.cells ⟨0, 0, 0, ⟨0, none, 0, 0⟩, none, 0, 0, none, 0, 0⟩

theorem owns_lt {w : World} {e sz n cap k : Nat} {a : Option Addr} {xs : List Value} (h : Owns w e sz a n cap xs) (hk : isB a k) : k < w.heap.size := by
  obtain ⟨o, ho⟩ := hk
  rcases h.2 with ⟨e, _⟩ | ⟨g, cur, e, hg, _⟩
  · rw [e] at ho; cases ho
  · rw [e] at ho; simp at ho; have := hg.lt; omega

theorem not_isB_none (k : Nat) : ¬ isB (none : Option Addr) k := fun h => by obtain ⟨o, ho⟩ := h; cases ho

structure COf (w u : World) (b1 b2 b3 B : Nat) (p : Bodegalaw12RawR) (q : CommitJobR) (v : Vw) (X : List ApiSeenR) (Y : List ApiPageR) : Prop where
  new : New w u
  h1 : Blk u b1 p.cells TR12
  h2 : Blk u b2 zj TCJ
  h3 : Blk u b3 q.cells TCJ
  lo : w.heap.size ≤ b1 ∧ b1 < b2 ∧ b2 < b3 ∧ b3 < B
  view : ViewAt (fun k => k = b1 ∨ k = b2 ∨ k = b3 ∨ B ≤ k) u q.View v
  rown : Owns u TSn 2 q.Reads q.Reads_l q.Reads_c (snrows X).flatten
  rlen : q.Reads_l = X.length
  rfew : X.length ≤ 1000
  roff : ∀ k, isB q.Reads k → B ≤ k
  wown : Owns u TPg 9 q.Writes q.Writes_l q.Writes_c (pgrows Y).flatten
  wlen : q.Writes_l = Y.length
  wfew : Y.length ≤ 1000
  woff : ∀ k, isB q.Writes k → B ≤ k
  wu64 : ∀ x ∈ Y, U64 x.Head
  dis : ∀ k, isB q.Reads k → ¬ isB q.Writes k
  big : B ≤ u.heap.size

variable {w u u' : World} {b1 b2 b3 B : Nat} {p : Bodegalaw12RawR} {q : CommitJobR} {v : Vw} {X X' : List ApiSeenR} {Y Y' : List ApiPageR}

theorem COf.keep (h : COf w u b1 b2 b3 B p q v X Y) {M : Nat → Prop} (hk : Keep M u u') (hM : ∀ k, M k → B ≤ k) (hR : ∀ k, isB q.Reads k → ¬ M k) (hW : ∀ k, isB q.Writes k → ¬ M k) : COf w u' b1 b2 b3 B p q v X Y := by
  have hl := h.lo
  exact ⟨h.new.trans hk fun k hlt hm => by have := hM k hm; omega, hk.blk h.h1 fun e => by have := hM _ e; omega, hk.blk h.h2 fun e => by have := hM _ e; omega, hk.blk h.h3 fun e => by have := hM _ e; omega,
    h.lo, h.view.keep hk fun k hn => .inr (.inr (.inr (hM k hn))), Owns.keep hk h.rown hR, h.rlen, h.rfew, h.roff, Owns.keep hk h.wown hW, h.wlen, h.wfew, h.woff, h.wu64, h.dis, Nat.le_trans h.big hk.size⟩

theorem COf.nw (h : COf w u b1 b2 b3 B p q v X Y) (hn : New u u') : COf w u' b1 b2 b3 B p q v X Y := h.keep hn (fun _ h => h.elim) (fun _ _ h => h) (fun _ _ h => h)

/-- The first three fields are set. -/
theorem COf.head (h : COf w u b1 b2 b3 B p q v X Y) (hk : Keep (fun k => k = b3) u u') {c s l : Int} (h3 : Blk u' b3 (CommitJobR.cells ⟨c, s, l, q.View, q.Reads, q.Reads_l, q.Reads_c, q.Writes, q.Writes_l, q.Writes_c⟩) TCJ) :
    COf w u' b1 b2 b3 B p ⟨c, s, l, q.View, q.Reads, q.Reads_l, q.Reads_c, q.Writes, q.Writes_l, q.Writes_c⟩ v X Y := by
  have hl := h.lo
  exact ⟨h.new.trans hk fun k hlt hm => by omega, hk.blk h.h1 (by omega), hk.blk h.h2 (by omega), h3, h.lo, h.view.keep hk fun k hn => .inr (.inr (.inl hn)),
    Owns.keep hk h.rown fun k hk e => by have := h.roff k hk; omega, h.rlen, h.rfew, h.roff, Owns.keep hk h.wown fun k hk e => by have := h.woff k hk; omega, h.wlen, h.wfew, h.woff, h.wu64, h.dis, Nat.le_trans h.big hk.size⟩

theorem COf.head1 (h : COf w u b1 b2 b3 B p q v X Y) (hk : Keep (fun k => k = b3) u u') {x : Int} (h3 : Blk u' b3 (q.cells.set 1 (.int .i64 x)) TCJ) :
    COf w u' b1 b2 b3 B p ⟨q.Client, x, q.Lines, q.View, q.Reads, q.Reads_l, q.Reads_c, q.Writes, q.Writes_l, q.Writes_c⟩ v X Y := h.head (c := q.Client) (s := x) (l := q.Lines) hk h3
theorem COf.head2 (h : COf w u b1 b2 b3 B p q v X Y) (hk : Keep (fun k => k = b3) u u') {x : Int} (h3 : Blk u' b3 (q.cells.set 2 (.int .i64 x)) TCJ) :
    COf w u' b1 b2 b3 B p ⟨q.Client, q.Seq, x, q.View, q.Reads, q.Reads_l, q.Reads_c, q.Writes, q.Writes_l, q.Writes_c⟩ v X Y := h.head (c := q.Client) (s := q.Seq) (l := x) hk h3

theorem COf.rset (h : COf w u b1 b2 b3 B p q v X Y) (hk : Keep (isB q.Reads) u u') (ho : Owns u' TSn 2 q.Reads q.Reads_l q.Reads_c (snrows X').flatten) (hl : X'.length = X.length) : COf w u' b1 b2 b3 B p q v X' Y := by
  have hlo := h.lo
  exact ⟨h.new.trans hk fun k hlt hm => by have := h.roff k hm; omega, hk.blk h.h1 fun e => by have := h.roff _ e; omega, hk.blk h.h2 fun e => by have := h.roff _ e; omega, hk.blk h.h3 fun e => by have := h.roff _ e; omega,
    h.lo, h.view.keep hk fun k hn => .inr (.inr (.inr (h.roff k hn))), ho, by rw [hl]; exact h.rlen, by rw [hl]; exact h.rfew, h.roff, Owns.keep hk h.wown fun k hw hr => h.dis k hr hw, h.wlen, h.wfew, h.woff, h.wu64, h.dis, Nat.le_trans h.big hk.size⟩

theorem COf.wset (h : COf w u b1 b2 b3 B p q v X Y) (hk : Keep (isB q.Writes) u u') (ho : Owns u' TPg 9 q.Writes q.Writes_l q.Writes_c (pgrows Y').flatten) (hl : Y'.length = Y.length) (hu : ∀ x ∈ Y', U64 x.Head) : COf w u' b1 b2 b3 B p q v X Y' := by
  have hlo := h.lo
  exact ⟨h.new.trans hk fun k hlt hm => by have := h.woff k hm; omega, hk.blk h.h1 fun e => by have := h.woff _ e; omega, hk.blk h.h2 fun e => by have := h.woff _ e; omega, hk.blk h.h3 fun e => by have := h.woff _ e; omega,
    h.lo, h.view.keep hk fun k hn => .inr (.inr (.inr (h.woff k hn))), Owns.keep hk h.rown fun k hr hw => h.dis k hr hw, h.rlen, h.rfew, h.roff, ho, by rw [hl]; exact h.wlen, by rw [hl]; exact h.wfew, h.woff, hu, h.dis, Nat.le_trans h.big hk.size⟩

def SpPost (w : World) (b2 b3 : Nat) (u : World) : Prop := ∃ (q : CommitJobR) (j : CJob), Blk u b2 zj TCJ ∧ Blk u b3 q.cells TCJ ∧ New w u ∧ w.heap.size ≤ b2 ∧ ∀ w', Keep (fun k => k = b2) u w' → CJobAt w' q j

theorem sp_mk {M : Nat → Prop} (hn : New w u) (hw : w.heap.size ≤ b2) (h2 : Blk u b2 zj TCJ) (h3 : Blk u b3 q.cells TCJ) (hv : ViewAt M u q.View v) (hM : M b2) (hr : Owns u TSn 2 q.Reads q.Reads_l q.Reads_c (snrows X).flatten) (hrl : q.Reads_l = X.length) (hrf : X.length ≤ 1000) (hro : ∀ k, isB q.Reads k → k ≠ b2)
    (hy : Owns u TPg 9 q.Writes q.Writes_l q.Writes_c (pgrows Y).flatten) (hyl : q.Writes_l = Y.length) (hyf : Y.length ≤ 1000) (hyo : ∀ k, isB q.Writes k → k ≠ b2) (hu : ∀ x ∈ Y, U64 x.Head) : SpPost w b2 b3 u :=
  ⟨q, ⟨q.Client, q.Seq, q.Lines, v, X, Y⟩, h2, h3, hn, hw, fun w' hk => ⟨rfl, rfl, rfl, ⟨M, hv.keep hk fun k e => e ▸ hM⟩, (Owns.keep hk hr fun k hk e => hro k hk e).rd, hrl, Nat.le_trans hrf (by omega),
    ⟨(Owns.keep hk hy fun k hk e => hyo k hk e).rd, hyl, Nat.le_trans hyf (by omega), hu⟩⟩⟩

theorem COf.post (h : COf w u b1 b2 b3 B p q v X Y) : SpPost w b2 b3 u :=
  sp_mk h.new (by have := h.lo; omega) h.h2 h.h3 h.view (.inr (.inl rfl)) h.rown h.rlen h.rfew (fun k hk e => by have := h.roff k hk; have := h.lo; omega) h.wown h.wlen h.wfew (fun k hk e => by have := h.woff k hk; have := h.lo; omega) h.wu64

set_option maxHeartbeats 2000000 in
set_option maxRecDepth 100000 in
theorem Spoil_c (h : COf w u b1 b2 b3 B p q v X Y) (hne : v.mem ≠ []) (hs1 : I64 p.Spoil) (hs2 : I64 p.At) : Does 74 [.pointer (some ⟨b3, 0, none⟩), p.val] u fun x u' => x = .tuple #[] ∧ SpPost w b2 b3 u' := by
  refine does Tryz.func74 ?_
  rw [bodegalaw12_spoil_vc]
  rintro b4 u1 hb4 hw1
  obtain ⟨hz4, hn1⟩ := box_new hb4 hw1
  have hz4 : Blk u1 b4 p.cells TR12 := hz4
  clear hw1
  have hr4 : ¬ isB q.Reads b4 := fun e => by have := owns_lt h.rown e; omega
  have hw4 : ¬ isB q.Writes b4 := fun e => by have := owns_lt h.wown e; omega
  have hl := h.lo
  have h := h.nw hn1
  clear hb4 hn1
  refine ⟨_, hz4.cell (i := 4) rfl, ?_⟩
  refine at_call (Pick_c u1 p.Spoil 24 hs1 (by omega)) ?_
  rintro x u2 ⟨rfl, rfl⟩
  generalize (if (24 : Int) < 1 then 0 else p.Spoil % 24) = s
  refine ⟨_, rfl, bif_beq (fun _ => ⟨_, hz4.cell (i := 5) rfl, ?_⟩) (fun _ => bif_beq (fun _ => ⟨_, hz4.cell (i := 5) rfl, ?_⟩) (fun _ => bif_beq (fun _ => ⟨_, hz4.cell (i := 5) rfl, ?_⟩) (fun _ => bif_beq (fun _ => ⟨_, _, _, h.h3.cell (i := 4) rfl, ?_⟩) (fun _ => bif_beq (fun _ => ⟨_, _, _, h.h3.cell (i := 5) rfl, bif_dec (fun hp => ?_) (fun _ => ⟨rfl, h.post⟩)⟩) (fun _ => bif_beq (fun _ => ⟨_, _, _, h.h3.cell (i := 6) rfl, bif_dec (fun hp => ?_) (fun _ => ⟨rfl, h.post⟩)⟩) (fun _ => ⟨rfl, h.post⟩))))))⟩
  · refine at_call (Pick_c u2 p.At 9 hs2 (by omega)) ?_
    rintro x u3 ⟨rfl, rfl⟩
    exact ⟨_, rfl, setv_k (b := b3) h.h3 (o := 0) (by simp [CommitJobR.cells]) fun u4 h34 hk4 => ⟨rfl, (h.head hk4 h34).post⟩⟩
  · refine at_call (Pick_c u2 p.At 3 hs2 (by omega)) ?_
    rintro x u3 ⟨rfl, rfl⟩
    exact ⟨_, rfl, setv_k (b := b3) h.h3 (o := 1) (by simp [CommitJobR.cells]) fun u4 h34 hk4 => ⟨rfl, (h.head1 hk4 h34).post⟩⟩
  · refine at_call (Pick_c u2 p.At 300 hs2 (by omega)) ?_
    rintro x u3 ⟨rfl, rfl⟩
    exact ⟨_, rfl, setv_k (b := b3) h.h3 (o := 2) (by simp [CommitJobR.cells]) fun u4 h34 hk4 => ⟨rfl, (h.head2 hk4 h34).post⟩⟩
  · -- the first member is left out
    have hvl := h.view.len
    have hvc := h.view.cap
    have hvs := h.view.small
    have hmpos : 0 < v.mem.length := List.length_pos_iff.2 hne
    obtain ⟨m0, mt, hmm⟩ : ∃ m0 mt, v.mem = m0 :: mt := by
      cases hm : v.mem with
      | nil => exact absurd hm hne
      | cons m0 mt => exact ⟨m0, mt, rfl⟩
    have hnews : (mrows v.mem).flatten = m0.cells ++ (mrows mt).flatten := by rw [hmm]; rfl
    have hmt : mt.length = v.mem.length - 1 := by rw [hmm]; rfl
    obtain ⟨inf, hinf, hz, hsz, hby⟩ := infoB (T := TMb) (z := .agg #[.int .i64 0, .int .i64 0, .bool false]) (n := 3) (m := 24) (by kernel_rfl)
    refine ⟨by omega, by omega, by omega, by omega, by omega, ?_⟩
    have hrd : Rd u2 (if (q.View.Members_c : Int) = 1 then q.View.Members else q.View.Members.map (·.add ((1 : Int).toNat * 3))) (mrows mt).flatten := by
      by_cases h1 : (q.View.Members_c : Int) = 1
      · have : mt = [] := List.eq_nil_of_length_eq_zero (by omega)
        rw [this]
        exact Rd.nil _ _
      · rw [if_neg h1]
        have hr := h.view.rd
        rcases hr with he | ⟨b, o, he, hc⟩
        · rw [hnews] at he; simp [ApiMemberR.cells] at he
        · rw [he]
          have := Rd.drop (.inr ⟨b, o, rfl, hc⟩ : Rd u2 (some ⟨b, o, none⟩) (mrows v.mem).flatten) 3
          rw [hnews] at this
          exact this
    have hl3 : (mrows mt).flatten.length = mt.length * inf.size := by
      rw [hsz]
      have := flat_length (rows := mrows mt) (sz := 3) (fun r hr => by obtain ⟨y, _, rfl⟩ := List.mem_map.1 hr; rfl)
      rw [this]; simp [mrows]
    have hsing : ∀ x ∈ (mrows mt).flatten, single x = true := by
      intro x hx
      obtain ⟨r, hr, hx⟩ := List.mem_flatten.1 hx
      obtain ⟨y, _, rfl⟩ := List.mem_map.1 hr
      exact ApiMemberR.single y x hx
    have hnat : Int.toNat (q.View.Members_l : Int) - Int.toNat 1 = mt.length := by omega
    rw [hnat]
    have hon : Owns u2 TMb inf.size none 0 0 [] := Owns.nil _ _ _
    obtain ⟨ap, cap', w7', hrun, hown7, hk7, hap⟩ := Owns.append (P := Tryz.prog) (t := TSM) (ty := TSM) Tryz.underlying29 hinf hz (by rw [hsz]; rfl) (by omega) hon (m := mt.length) (c := Int.toNat (q.View.Members_c : Int) - Int.toNat 1) hl3 hrd hsing (by omega) (by rw [hby]; omega)
    rw [hsz] at hown7
    simp only [Nat.zero_add, List.nil_append] at hrun hown7
    have hn7 : New u2 w7' := hk7.mono fun k _ hk => by obtain ⟨o, ho⟩ := hk; cases ho
    refine ⟨ap, mt.length, cap', w7', hrun, ?_⟩
    have hub := h.h3.lt
    have hap4 : ∀ k, isB ap k → b3 < k := fun k hk => by
      obtain ⟨o, ho⟩ := hk
      rcases hap with e | e
      · rw [e] at ho; cases ho
      · rw [e] at ho; simp at ho; omega
    refine setv_k (b := b3) (New.blk hn7 h.h3) (o := 4) (by simp [CommitJobR.cells]) fun u4 h34 hk4 => ⟨rfl, ?_⟩
    have ho4 := Owns.keep hk4 hown7 fun k hk e => by have := hap4 k hk; omega
    exact sp_mk (q := ⟨q.Client, q.Seq, q.Lines, ⟨q.View.Number, ap, mt.length, cap'⟩, q.Reads, q.Reads_l, q.Reads_c, q.Writes, q.Writes_l, q.Writes_c⟩) (v := ⟨v.number, mt⟩) (M := fun k => k = b2) ((h.new.new hn7).trans hk4 fun k hlt e => by omega) (by omega) (hk4.blk (New.blk hn7 h.h2) (by omega)) h34
      ⟨h.view.num, rfl, ho4.le, ho4.rd, off_of ho4.rd fun k hk e => by have := hap4 k hk; omega, by show mt.length ≤ _; omega⟩ rfl
      (Owns.keep hk4 (Owns.new hn7 h.rown) fun k hk e => by have := h.roff k hk; omega) h.rlen h.rfew (fun k hk e => by have := h.roff k hk; omega)
      (Owns.keep hk4 (Owns.new hn7 h.wown) fun k hk e => by have := h.woff k hk; omega) h.wlen h.wfew (fun k hk e => by have := h.woff k hk; omega) h.wu64
  · -- a read is changed
    have hpos : (q.Reads_l : Int) > 0 := hp
    have hrl := h.rlen
    rintro u3 hu3
    have hn3 : New u2 u3 := by rw [hu3]; exact new_drew _
    clear hu3
    have h3 := h.nw hn3
    have hz3 := New.blk hn3 hz4
    refine ⟨fun y => New u3 y, Keep.refl _ _, _, fun y hy => (New.blk hy hz3).cell (i := 5) rfl, _, _, _, fun y hy => (New.blk hy h3.h3).cell (i := 5) rfl, ?_⟩
    refine at_call (Pick_c u3 p.At q.Reads_l hs2 (by have := h.rfew; omega)) ?_
    rintro x u4 ⟨rfl, rfl⟩
    have hpk := pick_in (x := p.At) (n := (q.Reads_l : Int)) (by omega)
    generalize (if (q.Reads_l : Int) < 1 then 0 else p.At % q.Reads_l) = k at hpk
    refine ⟨_, rfl, Keep.refl _ _, ?_⟩
    rintro u5 hu5
    have hn5 : New u4 u5 := by rw [hu5]; exact new_drew _
    clear hu5
    have h5 := h3.nw hn5
    have hz5 := New.blk hn5 hz3
    refine ⟨fun y => New u5 y, Keep.refl _ _, _, _, _, fun y hy => (New.blk hy h5.h3).cell (i := 5) rfl, _, fun y hy => (New.blk hy hz5).cell (i := 5) rfl, ?_⟩
    refine at_call (Pick_c u5 _ 3 (wrap_I64 _) (by omega)) ?_
    rintro x u6 ⟨rfl, rfl⟩
    refine ⟨_, rfl, Keep.refl _ _, ?_⟩
    generalize (IntKind.u64.wrap (_ + 256)) = hd
    have hkl : k.toNat < X.length := by omega
    have hg : X[k.toNat]? = some X[k.toNat] := List.getElem?_eq_getElem hkl
    refine set_row (cells := ApiSeenR.cells) ApiSeenR.len h5.rown hg h5.rlen (k := 1) (y := ⟨X[k.toNat].Line, hd⟩) (by omega) rfl (z := k) (by omega) (F := fun ad => ⟨ad.block, ad.off + 1, none⟩) (fun _ _ => rfl) fun ad u7 hk7 ho7 => ?_
    have h7 := h5.rset hk7 ho7 (by simp)
    have hz7 := hk7.blk hz5 hr4
    rintro u8 hu8
    have hn8 : New u7 u8 := by rw [hu8]; exact new_drew _
    clear hu8
    have h8 := h7.nw hn8
    have hz8 := New.blk hn8 hz7
    have hg2 : (X.set k.toNat ⟨X[k.toNat].Line, hd⟩)[k.toNat]? = some ⟨X[k.toNat].Line, hd⟩ := by simp [hkl]
    refine ⟨fun y => New u8 y, Keep.refl _ _, _, _, _, fun y hy => (New.blk hy h8.h3).cell (i := 5) rfl, _, _, _, fun y hy => (New.blk hy h8.h3).cell (i := 5) rfl, ?_⟩
    refine rd_recS (cells := ApiSeenR.cells) ApiSeenR.len (by omega) h8.rown.rd hg2 (by omega) h8.rlen fun b o hc => ⟨_, fun y hy => hc y hy 0 _ rfl, _, fun y hy => (New.blk hy hz8).cell (i := 5) rfl, ?_⟩
    refine at_call (Pick_c u8 _ 5 (wrap_I64 _) (by omega)) ?_
    rintro x u9 ⟨rfl, rfl⟩
    refine ⟨_, rfl, Keep.refl _ _, ?_⟩
    generalize (IntKind.i64.wrap (_ - 2)) = nl
    refine set_row (cells := ApiSeenR.cells) ApiSeenR.len h8.rown hg2 h8.rlen (k := 0) (y := ⟨nl, hd⟩) (by omega) rfl (z := k) (by omega) (F := fun ad => ad) (fun _ _ => rfl) fun ad u10 hk10 ho10 => ?_
    exact ⟨rfl, (h8.rset hk10 ho10 (by simp)).post⟩
  · -- a write is changed
    have hpos : (q.Writes_l : Int) > 0 := hp
    have hrl := h.wlen
    rintro u3 hu3
    have hn3 : New u2 u3 := by rw [hu3]; exact new_drew _
    clear hu3
    have h3 := h.nw hn3
    have hz3 := New.blk hn3 hz4
    refine ⟨fun y => New u3 y, Keep.refl _ _, _, fun y hy => (New.blk hy hz3).cell (i := 5) rfl, _, _, _, fun y hy => (New.blk hy h3.h3).cell (i := 6) rfl, ?_⟩
    refine at_call (Pick_c u3 p.At q.Writes_l hs2 (by have := h.wfew; omega)) ?_
    rintro x u4 ⟨rfl, rfl⟩
    have hpk := pick_in (x := p.At) (n := (q.Writes_l : Int)) (by omega)
    generalize (if (q.Writes_l : Int) < 1 then 0 else p.At % q.Writes_l) = k at hpk
    refine ⟨_, rfl, Keep.refl _ _, ?_⟩
    rintro u5 hu5
    have hn5 : New u4 u5 := by rw [hu5]; exact new_drew _
    clear hu5
    have h5 := h3.nw hn5
    have hz5 := New.blk hn5 hz3
    refine ⟨fun y => New u5 y, Keep.refl _ _, _, _, _, fun y hy => (New.blk hy h5.h3).cell (i := 6) rfl, _, fun y hy => (New.blk hy hz5).cell (i := 5) rfl, ?_⟩
    refine at_call (Pick_c u5 _ 3 (wrap_I64 _) (by omega)) ?_
    rintro x u6 ⟨rfl, rfl⟩
    refine ⟨_, rfl, Keep.refl _ _, ?_⟩
    have hdu := u64_wrap (IntKind.u64.wrap (if (3 : Int) < 1 then 0 else IntKind.i64.wrap (p.At.tdiv 5) % 3) + 256)
    generalize (IntKind.u64.wrap (_ + 256)) = hd at hdu
    have hkl : k.toNat < Y.length := by omega
    have hg : Y[k.toNat]? = some Y[k.toNat] := List.getElem?_eq_getElem hkl
    refine set_row (cells := ApiPageR.cells) ApiPageR.len h5.wown hg h5.wlen (k := 1) (y := { Y[k.toNat] with Head := hd }) (by omega) rfl (z := k) (by omega) (F := fun ad => ⟨ad.block, ad.off + 1, none⟩) (fun _ _ => rfl) fun ad u7 hk7 ho7 => ?_
    have h7 := h5.wset hk7 ho7 (by simp) fun x hx => by
      rcases List.mem_or_eq_of_mem_set hx with hx | rfl
      · exact h5.wu64 x hx
      · exact hdu
    have hz7 := hk7.blk hz5 hw4
    rintro u8 hu8
    have hn8 : New u7 u8 := by rw [hu8]; exact new_drew _
    clear hu8
    have h8 := h7.nw hn8
    have hz8 := New.blk hn8 hz7
    have hg2 : (Y.set k.toNat { Y[k.toNat] with Head := hd })[k.toNat]? = some { Y[k.toNat] with Head := hd } := by simp [hkl]
    refine ⟨fun y => New u8 y, Keep.refl _ _, _, _, _, fun y hy => (New.blk hy h8.h3).cell (i := 6) rfl, _, _, _, fun y hy => (New.blk hy h8.h3).cell (i := 6) rfl, ?_⟩
    refine rd_recS (cells := ApiPageR.cells) ApiPageR.len (by omega) h8.wown.rd hg2 (by omega) h8.wlen fun b o hc => ⟨_, fun y hy => hc y hy 0 _ rfl, _, fun y hy => (New.blk hy hz8).cell (i := 5) rfl, ?_⟩
    refine at_call (Pick_c u8 _ 5 (wrap_I64 _) (by omega)) ?_
    rintro x u9 ⟨rfl, rfl⟩
    refine ⟨_, rfl, Keep.refl _ _, ?_⟩
    generalize (IntKind.i64.wrap (_ - 2)) = nl
    refine set_row (cells := ApiPageR.cells) ApiPageR.len h8.wown hg2 h8.wlen (k := 0) (y := { Y[k.toNat] with Head := hd, Line := nl }) (by omega) rfl (z := k) (by omega) (F := fun ad => ad) (fun _ _ => rfl) fun ad u10 hk10 ho10 => ?_
    exact ⟨rfl, (h8.wset hk10 ho10 (by simp) fun x hx => by
      rcases List.mem_or_eq_of_mem_set hx with hx | rfl
      · exact h8.wu64 x hx
      · exact hdu).post⟩
end Go.Proofs.YtjifihffjmbjfaaGreat
