/- The job of raw numbers of package commit's laws. -/
import Derived.Test.YtjifihffjmbjfaaGreatCO
set_option linter.unusedVariables false
namespace Go.Proofs.YtjifihffjmbjfaaGreat
open Go.Eng

theorem pushS_k {u : World} {a : Option Addr} {n cap : Nat} {L : List ApiSeenR} (ho : Owns u TSn 2 a n cap (snrows L).flatten) {x : ApiSeenR} (hb1 : n ≤ 1000000) {K : Nat → Option Addr → Nat → Nat → World → Prop}
    (hk : ∀ b ap cap' w3, b = u.heap.size → Owns w3 TSn 2 ap (n + 1) cap' (snrows (L ++ [x])).flatten → Keep (isB a) u w3 → (∀ k, isB ap k → isB a k ∨ u.heap.size ≤ k) → K b ap (n + 1) cap' w3) :
    ∀ b1 w2, b1 = u.heap.size → w2 = u.alloc (.cells x.cells.toArray TSn) → ∃ (ap : Option Addr) (ap_len ap_cap : Nat), ∃ w3, (Builtin.append_ #[57, 57] 57 #[(.slice a n cap), (.slice (some ⟨b1, 0, none⟩) 1 1)]).run Tryz.prog w2 = .ok (.slice ap ap_len ap_cap) w3 ∧ K b1 ap ap_len ap_cap w3 := by
  obtain ⟨inf, hi, hz, hsz, hby⟩ := infoB (T := TSn) (z := .agg #[.int .i64 0, .int .u64 0]) (n := 2) (m := 16) (by kernel_rfl)
  rw [← hsz] at ho
  refine push_k (vs := x.cells) Tryz.underlying57 hi hz (by rw [hsz]; rfl) (by omega) ho (by rw [hsz]; rfl) (ApiSeenR.single x) (by omega) (by omega) ?_
  intro b ap cap' w3 h1 h2
  have e : (snrows L).flatten ++ x.cells = (snrows (L ++ [x])).flatten := by simp [snrows]
  rw [hsz, e] at h2
  exact hk b ap cap' w3 h1 h2

theorem pushS_k2 {u : World} {a : Option Addr} {n cap : Nat} {L : List ApiSeenR} (ho : Owns u TSn 2 a n cap (snrows L).flatten) {x : ApiSeenR} (hb1 : n ≤ 1000000) {S : World → Prop} (hS : ∀ w2, New u w2 → S w2) {K : Nat → Option Addr → Nat → Nat → World → Prop}
    (hk : ∀ b ap cap' w3, b = u.heap.size → Owns w3 TSn 2 ap (n + 1) cap' (snrows (L ++ [x])).flatten → Keep (isB a) u w3 → (∀ k, isB ap k → isB a k ∨ u.heap.size ≤ k) → K b ap (n + 1) cap' w3) :
    ∀ b1 w2, b1 = u.heap.size → w2 = u.alloc (.cells x.cells.toArray TSn) → S w2 ∧ ∃ (ap : Option Addr) (ap_len ap_cap : Nat), ∃ w3, (Builtin.append_ #[57, 57] 57 #[(.slice a n cap), (.slice (some ⟨b1, 0, none⟩) 1 1)]).run Tryz.prog w2 = .ok (.slice ap ap_len ap_cap) w3 ∧ K b1 ap ap_len ap_cap w3 :=
  fun b1 w2 h1 h2 => ⟨hS _ (box_new h1 h2).2, pushS_k ho hb1 hk b1 w2 h1 h2⟩

/-- An element of rows that one has, where other rows are written. -/
theorem rd_recK {α : Type} {cells : α → List Value} {sz : Nat} (hsz : ∀ x, (cells x).length = sz) (h0 : 0 < sz) {u : World} {e : TypeId} {a : Option Addr} {n cap : Nat} {l : List α} (h : Owns u e sz a n cap (l.map cells).flatten) {M : Nat → Prop} (hM : ∀ k, isB a k → ¬ M k) {i : Nat} {x : α} (hx : l[i]? = some x) {z : Int} (hz : z = i) (hn : n = l.length) {K : Addr → Prop}
    (hk : ∀ b o, (∀ y, Keep M u y → ∀ (q : Nat) (v : Value), (cells x)[q]? = some v → y.cell? ⟨b, o + q, none⟩ = some v) → K ⟨b, o, none⟩) : idxS a n z sz K := by
  subst hz hn
  have hlt := lt_of_get hx
  have hs : ∀ r ∈ l.map cells, r.length = sz := fun r hr => by obtain ⟨y, _, rfl⟩ := List.mem_map.1 hr; exact hsz y
  obtain ⟨b, o, rfl, h1, h2⟩ := h.rd.row (sz := sz) hs h0 (i := i) (r := cells x) (by simp [hx])
  refine idxS_mk (by omega) (by omega) ?_
  have := hk b (o + i * sz) fun y hy q v hv => by
    obtain ⟨b', o', e, _, g2⟩ := (Owns.keep hy h hM).rd.row (sz := sz) hs h0 (i := i) (r := cells x) (by simp [hx])
    simp at e
    obtain ⟨rfl, rfl⟩ := e
    exact g2 q v hv
  simpa using this

structure CRaw (w : World) (p : Bodegalaw12RawR) (rl wl : List Int) : Prop where
  a : I64 p.Client
  b : I64 p.Seq
  c : I64 p.Lines
  d : I64 p.Mask
  e : I64 p.Spoil
  f : I64 p.At
  rd : Rd w p.Reads (is rl)
  rlen : p.Reads_l = rl.length
  rfew : rl.length ≤ 8
  ri : ∀ x ∈ rl, I64 x
  wd : Rd w p.Writes (is wl)
  wlen : p.Writes_l = wl.length
  wfew : wl.length ≤ 8
  wi : ∀ x ∈ wl, I64 x
theorem CRaw.new {w w' : World} {p : Bodegalaw12RawR} {rl wl : List Int} (h : CRaw w p rl wl) (hn : New w w') : CRaw w' p rl wl := ⟨h.a, h.b, h.c, h.d, h.e, h.f, h.rd.new hn, h.rlen, h.rfew, h.ri, h.wd.new hn, h.wlen, h.wfew, h.wi⟩

abbrev OfPost (w : World) : Value → World → Prop := fun x w' => ∃ r j, x = CommitJobR.val r ∧ CJobAt w' r j ∧ New w w'

variable {w u u' : World} {b1 b2 b3 B : Nat} {p : Bodegalaw12RawR} {q : CommitJobR} {v : Vw} {X : List ApiSeenR} {Y P : List ApiPageR}

set_option maxHeartbeats 1000000 in
theorem Of_tail3 (h : COf w u b1 b2 b3 B p q v X Y) (hne : v.mem ≠ []) (he : I64 p.Spoil) (hf : I64 p.At) (jj : List Value) :
    W Tryz.prog (sub (bodyOf Tryz.f20) [1, 1, 1, 1, 1, 1, 1]) (bodegalaw12_of_aft1 ⟨b1, 0, none⟩ ⟨b2, 0, none⟩ ⟨b3, 0, none⟩ jj) (retQ Tryz.prog Tryz.f20 (OfPost w)) u := by
  rw [bodegalaw12_of_aft1_vc]
  refine loop_rule mix (fun m env z => ∃ (i : Nat) (Y' : List ApiPageR) (jj : List Value), m = Y.length - i ∧ i ≤ Y.length ∧ Y'.length = Y.length ∧ env = bodegalaw12_of_env3 ⟨b1, 0, none⟩ ⟨b2, 0, none⟩ ⟨b3, 0, none⟩ i jj ∧ COf w z b1 b2 b3 B p q v X Y') Y.length
    ⟨0, Y, _, by omega, by omega, rfl, rfl, h⟩ ?_
  clear h
  rintro m env z ⟨i, Y', jj, rfl, hi, hYl, rfl, h⟩
  have hwl := h.wlen
  have hwf := h.wfew
  rw [bodegalaw12_of_loop3_body]
  refine ⟨_, _, _, h.h3.cell (i := 6) rfl, bif_dec (fun hq => ⟨_, h.h1.cell (i := 5) rfl, ?_⟩) (fun hq => ?_)⟩
  · refine at_call (Pick_c z p.At 3 hf (by omega)) ?_
    rintro x z2 ⟨rfl, rfl⟩
    have hlt : i < Y'.length := by omega
    have hg : Y'[i]? = some Y'[i] := List.getElem?_eq_getElem hlt
    refine ⟨_, rfl, bif_dec (fun hp => ⟨_, _, _, h.h3.cell (i := 6) rfl, ?_⟩) (fun hp => ?_)⟩
    · refine set_row (cells := ApiPageR.cells) ApiPageR.len h.wown hg h.wlen (k := 1) (y := { Y'[i] with Head := 256 }) (by omega) rfl (z := i) rfl (F := fun ad => ⟨ad.block, ad.off + 1, none⟩) (fun _ _ => rfl) fun ad u7 hk7 ho7 => ?_
      have h7 := h.wset hk7 ho7 (by simp) fun x hx => by
        rcases List.mem_or_eq_of_mem_set hx with hx | rfl
        · exact h.wu64 x hx
        · show U64 256
          exact ⟨by omega, by omega⟩
      rw [w64 (by omega) (by omega)]
      exact ⟨Y.length - (i + 1), by omega, i + 1, _, _, rfl, by omega, by simpa using hYl, rfl, h7⟩
    · rw [w64 (by omega) (by omega)]
      exact ⟨Y.length - (i + 1), by omega, i + 1, Y', _, rfl, by omega, hYl, rfl, h⟩
  · rw [bodegalaw12_of_aft3_vc]
    refine Bodegalaw12RawR.mk_ex p ⟨cellsAt_blk h.h1 rfl, ?_⟩
    refine at_call (Spoil_c h hne he hf) ?_
    rintro x u2 ⟨rfl, q', j', h2, h3, hn, hlo, hk⟩
    refine ⟨rfl, ?_⟩
    exact out_k (cells := CommitJobR.cells) (ex := CommitJobR.ex) (fun K r h => CommitJobR.mk_ex r h) CommitJobR.single (r := q') h2 rfl h3 (K := fun r w' => OfPost w (CommitJobR.val r) w') fun w' hk' => ⟨q', j', rfl, hk w' hk', hn.trans hk' fun k hlt e => by omega⟩

theorem COf.radd {c s l : Int} {vw : ApiViewR} {a ap wa : Option Addr} {n cc cap wl wc : Nat} {u3 u4 : World} {x : ApiSeenR} (h : COf w u b1 b2 b3 B p ⟨c, s, l, vw, a, n, cc, wa, wl, wc⟩ v X Y) (hk3 : Keep (isB a) u u3) (ho3 : Owns u3 TSn 2 ap (n + 1) cap (snrows (X ++ [x])).flatten)
    (hap : ∀ k, isB ap k → isB a k ∨ u.heap.size ≤ k) (hX : X.length < 900) (hk4 : Keep (fun k => k = b3) u3 u4) (h34 : Blk u4 b3 (CommitJobR.cells ⟨c, s, l, vw, ap, n + 1, cap, wa, wl, wc⟩) TCJ) : COf w u4 b1 b2 b3 B p ⟨c, s, l, vw, ap, n + 1, cap, wa, wl, wc⟩ v (X ++ [x]) Y := by
  have hlo := h.lo
  have hbig := h.big
  have hro : ∀ k, isB a k → B ≤ k := h.roff
  have hwo : ∀ k, isB wa k → B ≤ k := h.woff
  have hrl : n = X.length := h.rlen
  have hkk : Keep (fun k => k = b3 ∨ isB a k) u u4 := (hk3.mono fun _ _ h => .inr h).trans hk4 fun _ _ h => .inl h
  have hoff : ∀ k, isB ap k → B ≤ k := fun k hk => by
    rcases hap k hk with h | h
    · exact hro k h
    · omega
  have hd : ∀ k, isB a k → ¬ isB wa k := h.dis
  refine ⟨h.new.trans hkk fun k hlt e => ?_, hkk.blk h.h1 fun e => ?_, hkk.blk h.h2 fun e => ?_, h34, h.lo, h.view.keep hkk fun k e => ?_, Owns.keep hk4 ho3 fun k hk e => ?_, ?_, by simp; omega, hoff, Owns.keep hkk h.wown fun k hk e => ?_, h.wlen, h.wfew, h.woff, h.wu64, fun k hk => ?_, Nat.le_trans hbig hkk.size⟩
  · rcases e with e | e
    · omega
    · have := hro k e; omega
  · rcases e with e | e
    · omega
    · have := hro _ e; omega
  · rcases e with e | e
    · omega
    · have := hro _ e; omega
  · rcases e with e | e
    · exact .inr (.inr (.inl e))
    · exact .inr (.inr (.inr (hro k e)))
  · have := hoff k hk; omega
  · show n + 1 = _
    simp [hrl]
  · have hk : isB wa k := hk
    rcases e with e | e
    · have := hwo k hk; omega
    · exact hd k e hk
  · rcases hap k hk with h1 | h1
    · exact hd k h1
    · intro hw
      have := owns_lt h.wown hw
      omega

set_option maxHeartbeats 2000000 in
theorem Of_tail {a7 : Option Addr} {n7 c7 : Nat} {cl sq li : Int} {vw : ApiViewR} {wa : Option Addr} {wl wc : Nat} (h : COf w u b1 b2 b3 B p ⟨cl, sq, li, vw, none, 0, 0, wa, wl, wc⟩ v [] Y) (hne : v.mem ≠ []) (he : I64 p.Spoil) (hf : I64 p.At) (h7 : Owns u TPg 9 a7 n7 c7 (pgrows P).flatten) (hn7 : n7 = P.length) (hP : P.length ≤ 800) (h7f : ∀ k, isB a7 k → B ≤ k) (jj : List Value) :
    codeW Tryz.prog (.loop (sub (bodyOf Tryz.f20) [1, 1, 1, 1, 1, 1, 0, 1, 0, 0])) (bodegalaw12_of_env1 ⟨b1, 0, none⟩ ⟨b2, 0, none⟩ ⟨b3, 0, none⟩ a7 n7 c7 0 jj) (blockQ 0 (seqQ (fun env z => W Tryz.prog (sub (bodyOf Tryz.f20) [1, 1, 1, 1, 1, 1, 1]) env (retQ Tryz.prog Tryz.f20 (OfPost w)) z) (retQ Tryz.prog Tryz.f20 (OfPost w)))) u := by
  refine loop_rule mix (fun m env z => ∃ (i : Nat) (a : Option Addr) (n c : Nat) (X : List ApiSeenR) (jj : List Value), m = P.length - i ∧ i ≤ P.length ∧ env = bodegalaw12_of_env1 ⟨b1, 0, none⟩ ⟨b2, 0, none⟩ ⟨b3, 0, none⟩ a7 n7 c7 i jj ∧ COf w z b1 b2 b3 B p ⟨cl, sq, li, vw, a, n, c, wa, wl, wc⟩ v X Y ∧ Owns z TPg 9 a7 n7 c7 (pgrows P).flatten ∧ X.length ≤ i ∧ ∀ k, isB a k → ¬ isB a7 k) P.length
    ⟨0, none, 0, 0, [], _, by omega, by omega, rfl, h, h7, by simp, fun k hk => absurd hk (not_isB_none k)⟩ ?_
  have hBs := h.h3.lt
  clear h h7 jj
  rintro m env z ⟨i, a, n, c, X, jj, rfl, hi, rfl, h, h7, hXi, hd7⟩
  have hwl : wl = Y.length := h.wlen
  have hwf := h.wfew
  rw [bodegalaw12_of_loop1_body]
  refine bif_dec (fun hq => ?_) (fun hq => Of_tail3 h hne he hf _)
  have hlt : i < P.length := by omega
  have hg : P[i]? = some P[i] := List.getElem?_eq_getElem hlt
  refine loop_rule mix (fun m env y => ∃ (k : Nat) (own : Bool) (jj : List Value), m = Y.length - k ∧ k ≤ Y.length ∧ env = bodegalaw12_of_env2 ⟨b1, 0, none⟩ ⟨b2, 0, none⟩ ⟨b3, 0, none⟩ a7 n7 c7 i own k jj ∧ New z y) Y.length
    ⟨0, false, _, by omega, by omega, rfl, Keep.refl _ _⟩ ?_
  rintro m env y ⟨k, own, jj2, rfl, hk, rfl, hny⟩
  have hy := h.nw hny
  have h7y := Owns.new hny h7
  rw [bodegalaw12_of_loop2_body]
  refine ⟨_, _, _, hy.h3.cell (i := 6) rfl, bif_dec (fun hq2 => ?_) (fun hq2 => ?_)⟩
  · have hq2 : (k : Int) < (wl : Nat) := hq2
    rintro y1 hy1
    have hn1 : New y y1 := by rw [hy1]; exact new_drew _
    clear hy1
    have hh1 := hy.nw hn1
    have h71 := Owns.new hn1 h7y
    have hgk : Y[k]? = some Y[k] := List.getElem?_eq_getElem (by omega)
    refine ⟨fun t => New y1 t, Keep.refl _ _, bif_b (fun ho => ?_) (fun ho => ⟨_, _, _, fun t ht => (New.blk ht hh1.h3).cell (i := 6) rfl, ?_⟩)⟩
    · rw [w64 (by omega) (by omega)]
      exact ⟨Y.length - (k + 1), by omega, k + 1, true, _, rfl, by omega, rfl, hny.new hn1⟩
    · refine rd_recS (cells := ApiPageR.cells) ApiPageR.len (by omega) hh1.wown.rd hgk rfl hh1.wlen fun b o hc => ⟨_, fun t ht => hc t ht 0 _ rfl, ?_⟩
      refine rd_recS (cells := ApiPageR.cells) ApiPageR.len (by omega) h71.rd hg rfl hn7 fun b' o' hc' => ⟨_, fun t ht => hc' t ht 0 _ rfl, ?_⟩
      rw [w64 (by omega) (by omega)]
      exact ⟨Y.length - (k + 1), by omega, k + 1, _, _, rfl, by omega, rfl, hny.new hn1⟩
  · rw [bodegalaw12_of_aft2_vc]
    clear hq2 hk
    refine bif_not (fun ho => ?_) (fun ho => ?_)
    · rintro y1 hy1
      have hn1 : New y y1 := by rw [hy1]; exact new_drew _
      clear hy1
      have hh1 := hy.nw hn1
      have h71 := Owns.new hn1 h7y
      have hro : ∀ k, isB a k → B ≤ k := hh1.roff
      have hlo := hh1.lo
      have hrl : n = X.length := hh1.rlen
      have hb3 : ¬ isB a b3 := fun e => by have := hro _ e; omega
      refine ⟨fun t => Keep (isB a) y1 t, Keep.refl _ _, _, _, _, fun t ht => (Keep.blk ht hh1.h3 hb3).cell (i := 5) rfl, ?_⟩
      refine rd_recK (cells := ApiPageR.cells) ApiPageR.len (by omega) h71 (M := isB a) (fun k h1 h2 => hd7 k h2 h1) hg rfl hn7 fun b o hc => ⟨_, fun t ht => hc t ht 0 _ rfl, ?_⟩
      refine pushS_k2 (x := ⟨P[i].Line, 256⟩) hh1.rown (by show n ≤ _; omega) (fun _ h => Keep.of_new h) ?_
      intro b' ap cap z3 hb' ho3 hk3 hap
      refine ⟨hk3, setv_k (b := b3) (hk3.blk hh1.h3 hb3) (o := 5) (by simp [CommitJobR.cells]) fun z4 h34 hk4 => ?_⟩
      rw [w64 (by omega) (by omega)]
      refine ⟨P.length - (i + 1), by omega, i + 1, ap, n + 1, cap, X ++ [⟨P[i].Line, 256⟩], _, rfl, by omega, rfl, hh1.radd hk3 ho3 hap (by omega) hk4 h34, ?_, by simp; omega, fun k hk => ?_⟩
      · exact Owns.keep hk4 (Owns.keep hk3 h71 fun k h1 h2 => hd7 k h2 h1) fun k h1 e => by have := h7f k h1; omega
      · rcases hap k hk with h1 | h1
        · exact hd7 k h1
        · intro h2
          have := owns_lt h71 h2
          omega
    · rw [w64 (by omega) (by omega)]
      exact ⟨P.length - (i + 1), by omega, i + 1, a, n, c, X, _, rfl, by omega, rfl, hy, h7y, by omega, hd7⟩

set_option maxHeartbeats 1000000 in
theorem Of_pg {cl sq li : Int} {vw : ApiViewR} {rl wl : List Int} (h : COf w u b1 b2 b3 u.heap.size p ⟨cl, sq, li, vw, none, 0, 0, none, 0, 0⟩ v [] []) (hne : v.mem ≠ []) (hp : CRaw w p rl wl) (h98 : 98 ≤ li) (h256 : li ≤ 256) (J : Option Addr → Nat → Nat → Option Addr → Nat → Nat → Option Addr → Nat → Nat → Option Addr → Nat → Nat → List Value) :
    ∃ (Wa : Option Addr) (Wl Wc : Nat), u.cell? ⟨b1, 7, none⟩ = some (.slice Wa Wl Wc) ∧ Calls Tryz.prog 73 #[.slice Wa Wl Wc, .int .i64 li, .int .i64 4] u fun e w13 => ∃ (Pa : Option Addr) (Pl Pc : Nat), e = .returned (.slice Pa Pl Pc) ∧ (∃ x, w13.cell? ⟨b3, 6, none⟩ = some x) ∧ w13.frozen? ⟨b3, 6, none⟩ = false ∧ ∀ w14, w14 = w13.setCell ⟨b3, 6, none⟩ (.slice Pa Pl Pc) →
      ∃ (Ra : Option Addr) (Rl Rc : Nat), w14.cell? ⟨b1, 6, none⟩ = some (.slice Ra Rl Rc) ∧ Calls Tryz.prog 73 #[.slice Ra Rl Rc, .int .i64 li, .int .i64 4] w14 fun e w15 => ∃ (Qa : Option Addr) (Ql Qc : Nat), e = .returned (.slice Qa Ql Qc) ∧
        codeW Tryz.prog (.loop (sub (bodyOf Tryz.f20) [1, 1, 1, 1, 1, 1, 0, 1, 0, 0])) (bodegalaw12_of_env1 ⟨b1, 0, none⟩ ⟨b2, 0, none⟩ ⟨b3, 0, none⟩ Qa Ql Qc 0 (J Wa Wl Wc Pa Pl Pc Ra Rl Rc Qa Ql Qc)) (blockQ 0 (seqQ (fun env z => W Tryz.prog (sub (bodyOf Tryz.f20) [1, 1, 1, 1, 1, 1, 1]) env (retQ Tryz.prog Tryz.f20 (OfPost w)) z) (retQ Tryz.prog Tryz.f20 (OfPost w)))) w15 := by
  refine ⟨_, _, _, h.h1.cell (i := 7) rfl, ?_⟩
  refine at_call (Pages_c u (hp.new h.new).wd hp.wlen (by have := hp.wfew; omega) hp.wi h98 h256 (by omega) (by omega)) ?_
  rintro x w13 ⟨a, c, L, rfl, hown, hn13, hfr, hmost, hu64⟩
  have h13 := h.nw hn13
  have hlo := h.lo
  refine ⟨_, _, _, rfl, setv_k (b := b3) h13.h3 (o := 6) (by simp [CommitJobR.cells]) fun w14 h34 hk4 => ?_⟩
  have h14 : COf w w14 b1 b2 b3 u.heap.size p ⟨cl, sq, li, vw, none, 0, 0, a, L.length, c⟩ v [] L :=
    ⟨h13.new.trans hk4 fun k hlt e => by omega, hk4.blk h13.h1 (by omega), hk4.blk h13.h2 (by omega), h34, h.lo, h13.view.keep hk4 fun k e => .inr (.inr (.inl e)), Owns.nil _ _ _, rfl, by simp, fun k hk => absurd hk (not_isB_none k),
      Owns.keep hk4 hown fun k hk e => by have := hfr k hk; omega, rfl, by omega, hfr, hu64, fun k hk => absurd hk (not_isB_none k), Nat.le_trans h13.big hk4.size⟩
  refine ⟨_, _, _, h14.h1.cell (i := 6) rfl, ?_⟩
  refine at_call (Pages_c w14 (hp.new h14.new).rd hp.rlen (by have := hp.rfew; omega) hp.ri h98 h256 (by omega) (by omega)) ?_
  rintro x w15 ⟨a', c', L', rfl, hown', hn15, hfr', hmost', _⟩
  have h15 := h14.nw hn15
  exact ⟨_, _, _, rfl, Of_tail h15 hne hp.e hp.f hown' rfl (by omega) (fun k hk => by have := hfr' k hk; have := h14.big; omega) _⟩

set_option maxHeartbeats 4000000 in
set_option maxRecDepth 100000 in
/-- A job made of raw numbers. -/
theorem Of_c (w : World) {p : Bodegalaw12RawR} {rl wl : List Int} (hp : CRaw w p rl wl) {n : Int} (h1n : 1 ≤ n) (h5n : n ≤ 5) : Does 20 [p.val, .int .i64 n] w (OfPost w) := by
  refine does Tryz.func20 ?_
  rw [bodegalaw12_of_vc]
  rintro b1 w1 hb1 hw1
  obtain ⟨hz1, hn1⟩ := box_new hb1 hw1
  have hz1 : Blk w1 b1 p.cells TR12 := hz1
  clear hw1
  rintro b2 w2 hb2 hw2
  obtain ⟨hz2, hn2⟩ := box_new hb2 hw2
  have hz2 : Blk w2 b2 zj TCJ := hz2
  clear hw2
  have hz12 := New.blk hn2 hz1
  have hl1 := hz1.lt
  have hl2 := hz2.lt
  have hs1 := hn1.size
  refine ⟨_, hz12.cell (i := 2) rfl, ?_⟩
  refine at_call (Lines_c w2 hp.c) ?_
  rintro x w3 ⟨li, rfl, hn98, hn104, rfl⟩
  refine ⟨_, rfl, ?_⟩
  rintro w4 hw4
  have hn4 : New w3 w4 := by rw [hw4]; exact new_drew _
  clear hw4
  have hz14 := New.blk hn4 hz12
  have hz24 := New.blk hn4 hz2
  have hn04 := (hn1.new hn2).new hn4
  have hs4 := hn4.size
  have hb12 : w.heap.size ≤ b1 ∧ b1 < b2 ∧ b2 < w4.heap.size := ⟨by omega, by omega, by omega⟩
  clear hb1 hb2 hz1 hz2 hz12 hl1 hl2 hs1 hn1 hn2 hn4 hs4
  have Hmk : ∀ (u : World) (b3 : Nat) (cl sq : Int) (rv : ApiViewR) (v : Vw), New w u → Blk u b1 p.cells TR12 → Blk u b2 zj TCJ → b2 < b3 → Blk u b3 (CommitJobR.cells ⟨cl, sq, li, rv, none, 0, 0, none, 0, 0⟩) TCJ → ViewAt (fun k => k = b1 ∨ k = b2 ∨ k = b3 ∨ u.heap.size ≤ k) u rv v → COf w u b1 b2 b3 u.heap.size p ⟨cl, sq, li, rv, none, 0, 0, none, 0, 0⟩ v [] [] := by
    intro u b3 cl sq rv v hn a1 a2 h23 a3 hv
    have hl3 := a3.lt
    exact ⟨hn, a1, a2, a3, ⟨by omega, by omega, by omega, by omega⟩, hv, Owns.nil _ _ _, rfl, by simp, (fun k hk => absurd hk (not_isB_none k)), Owns.nil _ _ _, rfl, by simp, (fun k hk => absurd hk (not_isB_none k)), by simp, (fun k hk => absurd hk (not_isB_none k)), Nat.le_refl _⟩
  refine ⟨fun y => New w4 y, Keep.refl _ _, _, fun y hy => (New.blk hy hz14).cell (i := 0) rfl, _, fun y hy => (New.blk hy hz14).cell (i := 1) rfl, at_call (Pick_c w4 p.Client 6 hp.a (by omega)) ?_, ?_⟩
  · rintro x w5 ⟨rfl, rfl⟩
    refine ⟨_, rfl, Keep.refl _ _, at_call (Pick_c w5 p.Seq 50 hp.b (by omega)) ?_, ?_⟩
    · rintro x w6 ⟨rfl, rfl⟩
      refine ⟨_, rfl, Keep.refl _ _, at_call (Start_c w6 (n := n) h1n h5n) ?_, ?_⟩
      · rintro x w7 ⟨rs, vs, rfl, hvs, hn7, hgs, _⟩
        refine ApiViewR.mk_ex rs ⟨rfl, hn7, ?_⟩
        have hs7 := hn7.size
        rintro b3 w8 hb3 hw8
        obtain ⟨hz8, hn8'⟩ := box_new hb3 hw8
        clear hw8
        refine ⟨hn7.new hn8', ?_⟩
        have hz8 : Blk w8 b3 zj TCJ := hz8
        have hs8 := hn8'.size
        have hn8 : New w w8 := hn04.new (hn7.new hn8')
        have hz18 := New.blk (hn7.new hn8') hz14
        have hz28 := New.blk (hn7.new hn8') hz24
        have hb23 : b2 < b3 := by omega
        have hv8 : ViewAt (fun k => k = b1 ∨ k = b2 ∨ k = b3 ∨ w8.heap.size ≤ k) w8 rs vs := (hvs.mono fun k hlt hm => by
          show k < _
          rcases hm with e | e | e | e <;> omega).new hn8'
        generalize (if (6 : Int) < 1 then 0 else p.Client % 6) = cl
        generalize (IntKind.i64.wrap ((if (50 : Int) < 1 then 0 else p.Seq % 50) + 1)) = sq
        refine put_k (vs := CommitJobR.cells ⟨cl, sq, li, rs, none, 0, 0, none, 0, 0⟩) hz8 rfl (CommitJobR.single _) fun w9 hz9 hk9 => ?_
        have hC9 : COf w w9 b1 b2 b3 w9.heap.size p ⟨cl, sq, li, rs, none, 0, 0, none, 0, 0⟩ vs [] [] := Hmk w9 b3 cl sq rs vs (hn8.trans hk9 fun k hlt e => by omega) (hk9.blk hz18 (by omega)) (hk9.blk hz28 (by omega)) hb23 hz9 ((hv8.keep hk9 fun k e => .inr (.inr (.inl e))).mono fun k hlt hm => by
          have := hk9.size
          rcases hm with e | e | e | e
          · exact .inl e
          · exact .inr (.inl e)
          · exact .inr (.inr (.inl e))
          · omega)
        refine ⟨_, hC9.h1.cell (i := 3) rfl, ?_⟩
        refine at_call (Pick_c w9 p.Mask 3 hp.d (by omega)) ?_
        rintro x w10 ⟨rfl, rfl⟩
        refine ⟨_, rfl, bif_dec (fun hq => ⟨_, hC9.h1.cell (i := 3) rfl, ?_⟩) (fun hq => Of_pg hC9 hgs.ne hp hn98 (by omega) _)⟩
        refine at_call (HView_c w10 (number := 0) (full := 31) (n := n) (boots := []) ⟨by omega, by omega⟩ hp.d ⟨by omega, by omega⟩ (Rd.nil _ _) rfl (by simp) (by simp) (by omega) (by omega)) ?_
        rintro x w11 ⟨rv, v, rfl, hv, hn11, hgv⟩
        refine ApiViewR.mk_ex rv ⟨rfl, ?_⟩
        have h3 := New.blk hn11 hC9.h3
        have hb3 := hC9.h3.lt
        refine ⟨wrAt_blk h3 (by simp [CommitJobR.cells, ApiViewR.cells]) (ApiViewR.single _), fun w12 hw12 => ?_⟩
        have hk12 : Keep (fun k => k = b3) w11 w12 := by rw [hw12]; exact keep_puts _ _ _ _ _
        have h312 : Blk w12 b3 (CommitJobR.cells ⟨cl, sq, li, rv, none, 0, 0, none, 0, 0⟩) TCJ := by rw [hw12]; exact h3.puts
        clear hw12
        have hs11 := hn11.size
        have hs12 := hk12.size
        refine Of_pg (Hmk w12 b3 cl sq rv v ((hC9.new.new hn11).trans hk12 fun k hlt e => by omega) (hk12.blk (New.blk hn11 hC9.h1) (by omega)) (hk12.blk (New.blk hn11 hC9.h2) (by omega)) hb23 h312 ((hv.keep hk12 fun k e => by show k < _; omega).mono fun k hlt hm => by
          show k < _
          rcases hm with e | e | e | e <;> omega)) hgv.ne hp hn98 (by omega) _
      · rintro b3 w7 hb3 hw7
        obtain ⟨hz7, hn7⟩ := box_new hb3 hw7
        clear hw7
        have hl7 := hz7.lt
        have hs7 := hn7.size
        refine ⟨hn7, at_call (Start_c w7 (n := n) h1n h5n) ?_⟩
        rintro x w8 ⟨rs, vs, rfl, hvs, hn8', hgs, _⟩
        refine ApiViewR.mk_ex rs ⟨rfl, hn7.new hn8', ?_⟩
        have hz8 : Blk w8 b3 zj TCJ := New.blk hn8' hz7
        have hs8 := hn8'.size
        have hn8 : New w w8 := hn04.new (hn7.new hn8')
        have hz18 := New.blk (hn7.new hn8') hz14
        have hz28 := New.blk (hn7.new hn8') hz24
        have hb23 : b2 < b3 := by omega
        have hv8 : ViewAt (fun k => k = b1 ∨ k = b2 ∨ k = b3 ∨ w8.heap.size ≤ k) w8 rs vs := hvs.mono fun k hlt hm => by
          show k < _
          rcases hm with e | e | e | e <;> omega
        generalize (if (6 : Int) < 1 then 0 else p.Client % 6) = cl
        generalize (IntKind.i64.wrap ((if (50 : Int) < 1 then 0 else p.Seq % 50) + 1)) = sq
        refine put_k (vs := CommitJobR.cells ⟨cl, sq, li, rs, none, 0, 0, none, 0, 0⟩) hz8 rfl (CommitJobR.single _) fun w9 hz9 hk9 => ?_
        have hC9 : COf w w9 b1 b2 b3 w9.heap.size p ⟨cl, sq, li, rs, none, 0, 0, none, 0, 0⟩ vs [] [] := Hmk w9 b3 cl sq rs vs (hn8.trans hk9 fun k hlt e => by omega) (hk9.blk hz18 (by omega)) (hk9.blk hz28 (by omega)) hb23 hz9 ((hv8.keep hk9 fun k e => .inr (.inr (.inl e))).mono fun k hlt hm => by
          have := hk9.size
          rcases hm with e | e | e | e
          · exact .inl e
          · exact .inr (.inl e)
          · exact .inr (.inr (.inl e))
          · omega)
        refine ⟨_, hC9.h1.cell (i := 3) rfl, ?_⟩
        refine at_call (Pick_c w9 p.Mask 3 hp.d (by omega)) ?_
        rintro x w10 ⟨rfl, rfl⟩
        refine ⟨_, rfl, bif_dec (fun hq => ⟨_, hC9.h1.cell (i := 3) rfl, ?_⟩) (fun hq => Of_pg hC9 hgs.ne hp hn98 (by omega) _)⟩
        refine at_call (HView_c w10 (number := 0) (full := 31) (n := n) (boots := []) ⟨by omega, by omega⟩ hp.d ⟨by omega, by omega⟩ (Rd.nil _ _) rfl (by simp) (by simp) (by omega) (by omega)) ?_
        rintro x w11 ⟨rv, v, rfl, hv, hn11, hgv⟩
        refine ApiViewR.mk_ex rv ⟨rfl, ?_⟩
        have h3 := New.blk hn11 hC9.h3
        have hb3 := hC9.h3.lt
        refine ⟨wrAt_blk h3 (by simp [CommitJobR.cells, ApiViewR.cells]) (ApiViewR.single _), fun w12 hw12 => ?_⟩
        have hk12 : Keep (fun k => k = b3) w11 w12 := by rw [hw12]; exact keep_puts _ _ _ _ _
        have h312 : Blk w12 b3 (CommitJobR.cells ⟨cl, sq, li, rv, none, 0, 0, none, 0, 0⟩) TCJ := by rw [hw12]; exact h3.puts
        clear hw12
        have hs11 := hn11.size
        have hs12 := hk12.size
        refine Of_pg (Hmk w12 b3 cl sq rv v ((hC9.new.new hn11).trans hk12 fun k hlt e => by omega) (hk12.blk (New.blk hn11 hC9.h1) (by omega)) (hk12.blk (New.blk hn11 hC9.h2) (by omega)) hb23 h312 ((hv.keep hk12 fun k e => by show k < _; omega).mono fun k hlt hm => by
          show k < _
          rcases hm with e | e | e | e <;> omega)) hgv.ne hp hn98 (by omega) _
    · rintro b3 w6 hb3 hw6
      obtain ⟨hz7, hn7⟩ := box_new hb3 hw6
      clear hw6
      have hl7 := hz7.lt
      have hs7 := hn7.size
      refine ⟨hn7, at_call (Pick_c w6 p.Seq 50 hp.b (by omega)) ?_⟩
      rintro x w7 ⟨rfl, rfl⟩
      refine ⟨_, rfl, hn7, at_call (Start_c w7 (n := n) h1n h5n) ?_⟩
      rintro x w8 ⟨rs, vs, rfl, hvs, hn8', hgs, _⟩
      refine ApiViewR.mk_ex rs ⟨rfl, hn7.new hn8', ?_⟩
      have hz8 : Blk w8 b3 zj TCJ := New.blk hn8' hz7
      have hs8 := hn8'.size
      have hn8 : New w w8 := hn04.new (hn7.new hn8')
      have hz18 := New.blk (hn7.new hn8') hz14
      have hz28 := New.blk (hn7.new hn8') hz24
      have hb23 : b2 < b3 := by omega
      have hv8 : ViewAt (fun k => k = b1 ∨ k = b2 ∨ k = b3 ∨ w8.heap.size ≤ k) w8 rs vs := hvs.mono fun k hlt hm => by
        show k < _
        rcases hm with e | e | e | e <;> omega
      generalize (if (6 : Int) < 1 then 0 else p.Client % 6) = cl
      generalize (IntKind.i64.wrap ((if (50 : Int) < 1 then 0 else p.Seq % 50) + 1)) = sq
      refine put_k (vs := CommitJobR.cells ⟨cl, sq, li, rs, none, 0, 0, none, 0, 0⟩) hz8 rfl (CommitJobR.single _) fun w9 hz9 hk9 => ?_
      have hC9 : COf w w9 b1 b2 b3 w9.heap.size p ⟨cl, sq, li, rs, none, 0, 0, none, 0, 0⟩ vs [] [] := Hmk w9 b3 cl sq rs vs (hn8.trans hk9 fun k hlt e => by omega) (hk9.blk hz18 (by omega)) (hk9.blk hz28 (by omega)) hb23 hz9 ((hv8.keep hk9 fun k e => .inr (.inr (.inl e))).mono fun k hlt hm => by
        have := hk9.size
        rcases hm with e | e | e | e
        · exact .inl e
        · exact .inr (.inl e)
        · exact .inr (.inr (.inl e))
        · omega)
      refine ⟨_, hC9.h1.cell (i := 3) rfl, ?_⟩
      refine at_call (Pick_c w9 p.Mask 3 hp.d (by omega)) ?_
      rintro x w10 ⟨rfl, rfl⟩
      refine ⟨_, rfl, bif_dec (fun hq => ⟨_, hC9.h1.cell (i := 3) rfl, ?_⟩) (fun hq => Of_pg hC9 hgs.ne hp hn98 (by omega) _)⟩
      refine at_call (HView_c w10 (number := 0) (full := 31) (n := n) (boots := []) ⟨by omega, by omega⟩ hp.d ⟨by omega, by omega⟩ (Rd.nil _ _) rfl (by simp) (by simp) (by omega) (by omega)) ?_
      rintro x w11 ⟨rv, v, rfl, hv, hn11, hgv⟩
      refine ApiViewR.mk_ex rv ⟨rfl, ?_⟩
      have h3 := New.blk hn11 hC9.h3
      have hb3 := hC9.h3.lt
      refine ⟨wrAt_blk h3 (by simp [CommitJobR.cells, ApiViewR.cells]) (ApiViewR.single _), fun w12 hw12 => ?_⟩
      have hk12 : Keep (fun k => k = b3) w11 w12 := by rw [hw12]; exact keep_puts _ _ _ _ _
      have h312 : Blk w12 b3 (CommitJobR.cells ⟨cl, sq, li, rv, none, 0, 0, none, 0, 0⟩) TCJ := by rw [hw12]; exact h3.puts
      clear hw12
      have hs11 := hn11.size
      have hs12 := hk12.size
      refine Of_pg (Hmk w12 b3 cl sq rv v ((hC9.new.new hn11).trans hk12 fun k hlt e => by omega) (hk12.blk (New.blk hn11 hC9.h1) (by omega)) (hk12.blk (New.blk hn11 hC9.h2) (by omega)) hb23 h312 ((hv.keep hk12 fun k e => by show k < _; omega).mono fun k hlt hm => by
        show k < _
        rcases hm with e | e | e | e <;> omega)) hgv.ne hp hn98 (by omega) _
  · rintro b3 w5 hb3 hw5
    obtain ⟨hz7, hn7⟩ := box_new hb3 hw5
    clear hw5
    have hl7 := hz7.lt
    have hs7 := hn7.size
    refine ⟨hn7, at_call (Pick_c w5 p.Client 6 hp.a (by omega)) ?_⟩
    rintro x w6 ⟨rfl, rfl⟩
    refine ⟨_, rfl, hn7, at_call (Pick_c w6 p.Seq 50 hp.b (by omega)) ?_⟩
    rintro x w7 ⟨rfl, rfl⟩
    refine ⟨_, rfl, hn7, at_call (Start_c w7 (n := n) h1n h5n) ?_⟩
    rintro x w8 ⟨rs, vs, rfl, hvs, hn8', hgs, _⟩
    refine ApiViewR.mk_ex rs ⟨rfl, hn7.new hn8', ?_⟩
    have hz8 : Blk w8 b3 zj TCJ := New.blk hn8' hz7
    have hs8 := hn8'.size
    have hn8 : New w w8 := hn04.new (hn7.new hn8')
    have hz18 := New.blk (hn7.new hn8') hz14
    have hz28 := New.blk (hn7.new hn8') hz24
    have hb23 : b2 < b3 := by omega
    have hv8 : ViewAt (fun k => k = b1 ∨ k = b2 ∨ k = b3 ∨ w8.heap.size ≤ k) w8 rs vs := hvs.mono fun k hlt hm => by
      show k < _
      rcases hm with e | e | e | e <;> omega
    generalize (if (6 : Int) < 1 then 0 else p.Client % 6) = cl
    generalize (IntKind.i64.wrap ((if (50 : Int) < 1 then 0 else p.Seq % 50) + 1)) = sq
    refine put_k (vs := CommitJobR.cells ⟨cl, sq, li, rs, none, 0, 0, none, 0, 0⟩) hz8 rfl (CommitJobR.single _) fun w9 hz9 hk9 => ?_
    have hC9 : COf w w9 b1 b2 b3 w9.heap.size p ⟨cl, sq, li, rs, none, 0, 0, none, 0, 0⟩ vs [] [] := Hmk w9 b3 cl sq rs vs (hn8.trans hk9 fun k hlt e => by omega) (hk9.blk hz18 (by omega)) (hk9.blk hz28 (by omega)) hb23 hz9 ((hv8.keep hk9 fun k e => .inr (.inr (.inl e))).mono fun k hlt hm => by
      have := hk9.size
      rcases hm with e | e | e | e
      · exact .inl e
      · exact .inr (.inl e)
      · exact .inr (.inr (.inl e))
      · omega)
    refine ⟨_, hC9.h1.cell (i := 3) rfl, ?_⟩
    refine at_call (Pick_c w9 p.Mask 3 hp.d (by omega)) ?_
    rintro x w10 ⟨rfl, rfl⟩
    refine ⟨_, rfl, bif_dec (fun hq => ⟨_, hC9.h1.cell (i := 3) rfl, ?_⟩) (fun hq => Of_pg hC9 hgs.ne hp hn98 (by omega) _)⟩
    refine at_call (HView_c w10 (number := 0) (full := 31) (n := n) (boots := []) ⟨by omega, by omega⟩ hp.d ⟨by omega, by omega⟩ (Rd.nil _ _) rfl (by simp) (by simp) (by omega) (by omega)) ?_
    rintro x w11 ⟨rv, v, rfl, hv, hn11, hgv⟩
    refine ApiViewR.mk_ex rv ⟨rfl, ?_⟩
    have h3 := New.blk hn11 hC9.h3
    have hb3 := hC9.h3.lt
    refine ⟨wrAt_blk h3 (by simp [CommitJobR.cells, ApiViewR.cells]) (ApiViewR.single _), fun w12 hw12 => ?_⟩
    have hk12 : Keep (fun k => k = b3) w11 w12 := by rw [hw12]; exact keep_puts _ _ _ _ _
    have h312 : Blk w12 b3 (CommitJobR.cells ⟨cl, sq, li, rv, none, 0, 0, none, 0, 0⟩) TCJ := by rw [hw12]; exact h3.puts
    clear hw12
    have hs11 := hn11.size
    have hs12 := hk12.size
    refine Of_pg (Hmk w12 b3 cl sq rv v ((hC9.new.new hn11).trans hk12 fun k hlt e => by omega) (hk12.blk (New.blk hn11 hC9.h1) (by omega)) (hk12.blk (New.blk hn11 hC9.h2) (by omega)) hb23 h312 ((hv.keep hk12 fun k e => by show k < _; omega).mono fun k hlt hm => by
      show k < _
      rcases hm with e | e | e | e <;> omega)) hgv.ne hp hn98 (by omega) _
end Go.Proofs.YtjifihffjmbjfaaGreat
