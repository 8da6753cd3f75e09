/- Pages made of raw numbers. -/
import Derived.Test.YtjifihffjmbjfaaGreatCV1
set_option linter.unusedVariables false
namespace Go.Proofs.YtjifihffjmbjfaaGreat
open Go.Eng

abbrev TSPg : TypeId := 58

/-- Any continuation is taken as one that leaves returns alone. -/
theorem qr_mp {P : Program} {fn : Func} {R : Value → World → Prop} {Q : Exit → List Value → World → Prop} {c : Code} {env : List Value} {w : World} (h' : ∀ env w, Q .ret env w = retQ P fn R .ret env w) (h : W P c env (Qr P fn R Q) w) : W P c env Q w := (W_qr h').mp h

theorem flat_drop {α : Type} {cells : α → List Value} {sz : Nat} (hsz : ∀ x, (cells x).length = sz) : ∀ (l : List α) (n : Nat), (l.map cells).flatten.drop (n * sz) = ((l.drop n).map cells).flatten
  | l, 0 => by simp
  | [], n + 1 => by simp
  | x :: l, n + 1 => by
    have e : (n + 1) * sz = (cells x).length + n * sz := by rw [hsz, Nat.succ_mul, Nat.add_comm]
    rw [List.map_cons, List.flatten_cons, List.drop_succ_cons, e, ← List.drop_drop, List.drop_left]
    exact flat_drop hsz l n

theorem flat_take {α : Type} {cells : α → List Value} {sz : Nat} (hsz : ∀ x, (cells x).length = sz) : ∀ (l : List α) (n : Nat), (l.map cells).flatten.take (n * sz) = ((l.take n).map cells).flatten
  | l, 0 => by simp
  | [], n + 1 => by simp
  | x :: l, n + 1 => by
    have e : (n + 1) * sz = (cells x).length + n * sz := by rw [hsz, Nat.succ_mul, Nat.add_comm]
    rw [List.map_cons, List.flatten_cons, List.take_succ_cons, List.map_cons, List.flatten_cons, e, List.take_append, List.take_of_length_le (by omega), Nat.add_sub_cancel_left, flat_take hsz l n]

/-- A part of a slice. -/
theorem sub_rows {α : Type} {cells : α → List Value} {sz : Nat} (hsz : ∀ x, (cells x).length = sz) {u : World} {a : Option Addr} {l : List α} (h : Rd u a (l.map cells).flatten) {n cap : Nat} (hn : n = l.length) (hc : n ≤ cap) {lo hi : Int} {i k : Nat} (hlo : lo = i) (hhi : hi = k) (h1 : i ≤ k) (h2 : k ≤ n) {K : Option Addr → Nat → Nat → Prop}
    (hk : ∀ a', Rd u a' (((l.take k).drop i).map cells).flatten → ((l.take k).drop i).length = k - i → K a' (k - i) (cap - i)) : sl3 a n cap lo hi cap sz K := by
  subst hlo hhi hn
  refine ⟨by omega, by omega, by omega, by omega, by omega, ?_⟩
  have hl : ((l.take k).drop i).length = k - i := by rw [List.length_drop, List.length_take]; omega
  refine hk _ ?_ hl
  by_cases hci : (cap : Int) = i
  · have : (l.take k).drop i = [] := List.eq_nil_of_length_eq_zero (by omega)
    rw [this]
    exact Rd.nil _ _
  · rw [if_neg hci]
    have ht := h.take (k * sz)
    rw [flat_take hsz] at ht
    have hd := flat_drop hsz (l.take k) i
    rw [← hd]
    rcases ht with he | ⟨b, o, rfl, hcs⟩
    · rw [he]; exact .inl (by simp)
    · simp only [Option.map_some, add_eq, Int.toNat_natCast]
      exact Rd.drop (.inr ⟨b, o, rfl, hcs⟩ : Rd u (some ⟨b, o, none⟩) _) (i * sz)

/-- Pages are appended to pages that nobody else has. -/
theorem app_k {u0 u : World} {a s : Option Addr} {n cap m c : Nat} {xs ys : List ApiPageR} (hn : New u0 u) (ho : Owns u TPg 9 a n cap (pgrows xs).flatten) (hf : ∀ k, isB a k → u0.heap.size ≤ k) (hs : Rd u s (pgrows ys).flatten) (hm : m = ys.length) (hx : n + m ≤ 1000000) {K : Option Addr → Nat → Nat → World → Prop}
    (hk : ∀ a' cap' w', New u0 w' → Owns w' TPg 9 a' (n + m) cap' (pgrows (xs ++ ys)).flatten → (∀ k, isB a' k → u0.heap.size ≤ k) → K a' (n + m) cap' w') :
    ∃ (ap : Option Addr) (ap_len ap_cap : Nat), ∃ w3, (Builtin.append_ #[TSPg, TSPg] TSPg #[(.slice a n cap), (.slice s m c)]).run Tryz.prog u = .ok (.slice ap ap_len ap_cap) w3 ∧ K ap ap_len ap_cap w3 := by
  obtain ⟨inf, hinf, hz, hsz, hby⟩ := infoB (T := TPg) (z := .agg #[.int .i64 0, .int .u64 0, .int .u64 0, .int .u64 0, .int .u64 0, .int .u64 0, .int .u64 0, .int .u64 0, .int .u64 0]) (n := 9) (m := 72) (by kernel_rfl)
  rw [← hsz] at ho
  have hlr : (pgrows ys).flatten.length = m * inf.size := by
    rw [hsz, hm, flat_length (rows := pgrows ys) (sz := 9) (fun r hr => by obtain ⟨y, _, rfl⟩ := List.mem_map.1 hr; rfl)]
    simp [pgrows]
  have hsing : ∀ x ∈ (pgrows ys).flatten, single x = true := by
    intro x hx
    obtain ⟨r, hr, hx⟩ := List.mem_flatten.1 hx
    obtain ⟨y, _, rfl⟩ := List.mem_map.1 hr
    exact ApiPageR.single y x hx
  obtain ⟨ap, cap', w7, hrun, hown, hk7, hap⟩ := Owns.append (P := Tryz.prog) (t := TSPg) (ty := TSPg) Tryz.underlying58 hinf hz (by rw [hsz]; rfl) (by omega) ho (c := c) hlr hs hsing (by omega) (by rw [hby]; omega)
  rw [hsz] at hown
  have e : (pgrows xs).flatten ++ (pgrows ys).flatten = (pgrows (xs ++ ys)).flatten := by simp [pgrows]
  rw [e] at hown
  refine ⟨ap, n + m, cap', w7, hrun, hk ap cap' w7 (hn.trans hk7 fun k hlt hb => by have := hf k hb; omega) hown fun k hb => ?_⟩
  rcases hap with rfl | rfl
  · exact hf k hb
  · obtain ⟨o, ho⟩ := hb
    simp at ho
    have := hn.size
    omega

theorem u64_wrap (x : Int) : U64 (IntKind.u64.wrap x) := by
  unfold U64
  simp only [IntKind.wrap, IntKind.bits, IntKind.signed]
  simp
  omega

theorem set_data (p : ApiPageR) {i : Nat} (hi : i < 7) (x : Int) : ∃ q : ApiPageR, p.cells.set (2 + i) (.int .u64 x) = q.cells ∧ q.Head = p.Head ∧ q.Line = p.Line := by
  match i, hi with
  | 0, _ => exact ⟨{ p with Data0 := x }, rfl, rfl, rfl⟩
  | 1, _ => exact ⟨{ p with Data1 := x }, rfl, rfl, rfl⟩
  | 2, _ => exact ⟨{ p with Data2 := x }, rfl, rfl, rfl⟩
  | 3, _ => exact ⟨{ p with Data3 := x }, rfl, rfl, rfl⟩
  | 4, _ => exact ⟨{ p with Data4 := x }, rfl, rfl, rfl⟩
  | 5, _ => exact ⟨{ p with Data5 := x }, rfl, rfl, rfl⟩
  | 6, _ => exact ⟨{ p with Data6 := x }, rfl, rfl, rfl⟩

theorem div64 {x : Int} (hx : I64 x) : I64 (IntKind.i64.wrap (Int.tdiv x 64)) := wrap_I64 _

set_option maxHeartbeats 1000000 in
theorem Page_c (w : World) {n lines : Int} (hn : I64 n) (h1 : 98 ≤ lines) (h2 : lines ≤ 256) : Does 109 [.int .i64 n, .int .i64 lines] w fun x w' => ∃ p : ApiPageR, x = p.val ∧ U64 p.Head ∧ New w w' := by
  refine does Tryz.func109 ?_
  rw [bodegahand_Page_vc]
  rintro b1 w1 hb1 hw1
  obtain ⟨hz1, hn1⟩ := box_new hb1 hw1
  have hz1 : Blk w1 b1 noP.cells TPg := hz1
  clear hw1
  rw [w64 (x := lines - 96) (by omega) (by omega)]
  refine at_call (Pick_c w1 n (lines - 96) hn (by omega)) ?_
  rintro x w2 ⟨rfl, rfl⟩
  refine ⟨_, rfl, ?_⟩
  refine at_call (Pick_c w2 _ 4 (div64 hn) (by omega)) ?_
  rintro x w3 ⟨rfl, rfl⟩
  refine ⟨_, rfl, ?_⟩
  have hs1 := hn1.size
  have hl1 := hz1.lt
  generalize (IntKind.i64.wrap (96 + _)) = ln
  generalize (IntKind.i64.wrap (_ + 1)) = hd
  have hu : U64 (bshl .u64 (IntKind.u64.wrap hd) 8) := u64_wrap _
  generalize (bshl .u64 (IntKind.u64.wrap hd) 8) = hw at hu
  refine box_k (vs := ApiPageR.cells ⟨ln, hw, 0, 0, 0, 0, 0, 0, 0⟩) rfl (ApiPageR.single _) fun b2 w5 hb2 hz2 hn2 => ?_
  refine loop_rule mix (fun m env u => ∃ (i : Nat) (p : ApiPageR) (jj : List Value), m = 7 - i ∧ i ≤ 7 ∧ env = bodegahand_Page_env1 n ⟨b1, 0, none⟩ ⟨b2, 0, none⟩ i jj ∧ New w u ∧ Blk u b1 noP.cells TPg ∧ Blk u b2 p.cells TPg ∧ U64 p.Head) 7
    ⟨0, _, _, by omega, by omega, rfl, hn1.new hn2, New.blk hn2 hz1, hz2, hu⟩ ?_
  rintro m env u ⟨i, p, jj, rfl, hi, rfl, hnu, hu1, hu2, hph⟩
  rw [bodegahand_Page_loop1_body]
  refine bif_dec (fun hq => ?_) (fun hq => ?_)
  · refine at_call (Pick_c u n 1048576 hn (by omega)) ?_
    rintro x u2 ⟨rfl, rfl⟩
    refine ⟨_, rfl, idxA_mk (by omega) (by omega) ?_⟩
    have hi7 : i < 7 := by omega
    refine setv_k (b := b2) hu2 (o := 0 + 2 + ((i : Nat) : Int).toNat * 1) (by simp [ApiPageR.cells]; omega) fun u3 hu3 hk3 => ?_
    have e : 0 + 2 + ((i : Nat) : Int).toNat * 1 = 2 + i := by omega
    rw [e] at hu3
    obtain ⟨q, hq, hqh, _⟩ := set_data p hi7 (IntKind.u64.wrap (IntKind.u64.wrap (if (1048576 : Int) < 1 then 0 else n % 1048576) * IntKind.u64.wrap (IntKind.i64.wrap ((i : Int) + 3))))
    rw [hq] at hu3
    rw [w64 (x := (i : Int) + 1) (by omega) (by omega)]
    refine ⟨7 - (i + 1), by omega, i + 1, q, _, rfl, by omega, rfl, hnu.trans hk3 fun k hlt e => by omega, hk3.blk hu1 (by omega), hu3, by rw [hqh]; exact hph⟩
  · rw [bodegahand_Page_aft1_vc]
    refine ApiPageR.mk_ex p ⟨cellsAt_blk hu2 rfl, ?_⟩
    refine put_k (vs := p.cells) hu1 rfl (ApiPageR.single _) fun u3 hz3 hk3 => ?_
    exact ApiPageR.mk_ex p ⟨cellsAt_blk hz3 rfl, rfl, p, rfl, hph, hnu.trans hk3 fun k hlt e => by omega⟩

abbrev PgPost (w : World) (most : Int) : Value → World → Prop := fun x w' => ∃ (a : Option Addr) (c : Nat) (L : List ApiPageR), x = .slice a L.length c ∧ Owns w' TPg 9 a L.length c (pgrows L).flatten ∧ New w w' ∧ (∀ k, isB a k → w.heap.size ≤ k) ∧ (L.length : Int) ≤ most ∧ ∀ p ∈ L, U64 p.Head

set_option maxHeartbeats 4000000 in
theorem Pages_c (w : World) {a0 : Option Addr} {n0 c0 : Nat} {l : List Int} (hr : Rd w a0 (is l)) (hl : n0 = l.length) (hfew : l.length ≤ 1000) (hi64 : ∀ x ∈ l, I64 x) {lines most : Int} (h1 : 98 ≤ lines) (h2 : lines ≤ 256) (h3 : 0 ≤ most) (h4 : most ≤ 1000) :
    Does 73 [.slice a0 n0 c0, .int .i64 lines, .int .i64 most] w (PgPost w most) := by
  refine does Tryz.func73 ?_
  rw [bodegahand_Pages_vc]
  refine loop_rule mix (fun m env u => ∃ (i : Nat) (a : Option Addr) (n c : Nat) (L : List ApiPageR) (jj : List Value), m = l.length - i ∧ i ≤ l.length ∧ env = bodegahand_Pages_env1 a0 n0 c0 lines most a n c i jj ∧ New w u ∧ Owns u TPg 9 a n c (pgrows L).flatten ∧ (∀ k, isB a k → w.heap.size ≤ k) ∧ n = L.length ∧ (L.length : Int) ≤ most ∧ ∀ p ∈ L, U64 p.Head) l.length
    ⟨0, none, 0, 0, [], _, by omega, by omega, rfl, Keep.refl _ _, Owns.nil _ _ _, (fun k hk => by obtain ⟨o, ho⟩ := hk; cases ho), rfl, by simpa using h3, by simp⟩ ?_
  rintro m env u ⟨i, a, n, c, L, jj, rfl, hi, rfl, hnu, hown, hfr, rfl, hmost, hu64⟩
  refine qr_mp (P := Tryz.prog) (fn := Tryz.f73) (R := PgPost w most) (fun _ _ => rfl) ?_
  rw [bodegahand_Pages_loop1_body]
  refine bif_dec (fun hq => ?_) (fun hq => ?_)
  · have hlt : i < l.length := by omega
    have hg : l[i]? = some l[i] := List.getElem?_eq_getElem hlt
    refine rd_i (hr.new hnu) hg rfl hl fun b o hc => ⟨_, hc _ (Keep.refl _ _), ?_⟩
    refine at_call (Page_c u (hi64 _ (List.getElem_mem hlt)) h1 h2) ?_
    rintro x u1 ⟨p, rfl, hp, hn1⟩
    refine ApiPageR.mk_ex p ⟨rfl, box_k (vs := p.cells) rfl (ApiPageR.single _) fun b1 u2 hb1 hz1 hn2 => ?_⟩
    have hz1 : Blk u2 b1 p.cells TPg := hz1
    have hn02 := (hnu.new hn1).new hn2
    have hown2 := Owns.new (hn1.new hn2) hown
    refine loop_rule mix (fun m env z => ∃ (q : Nat) (jj : List Value), m = L.length - q ∧ q ≤ L.length ∧ env = bodegahand_Pages_env2 a0 n0 c0 lines most a L.length c i ⟨b1, 0, none⟩ q jj ∧ New u2 z) L.length
      ⟨0, _, by omega, by omega, rfl, Keep.refl _ _⟩ ?_
    rintro m env z ⟨q, jj, rfl, hqL, rfl, hnz⟩
    refine qr_mp (P := Tryz.prog) (fn := Tryz.f73) (R := PgPost w most) (fun _ _ => rfl) ?_
    rw [bodegahand_Pages_loop2_body]
    rintro z1 hz1'
    have hnz1 : New z z1 := by rw [hz1']; exact new_drew _
    clear hz1'
    have hn2z := hnz.new hnz1
    have hzz := New.blk hn2z hz1
    have hownz := Owns.new hn2z hown2
    have hn0z := hn02.new hn2z
    refine ⟨fun y => New z1 y, Keep.refl _ _, bif_dec (fun hql => ?g1) (fun hql => ?g2)⟩
    case' g1 =>
      have hg1 : L[q]? = some L[q] := List.getElem?_eq_getElem (by omega)
      refine rd_recS (cells := ApiPageR.cells) ApiPageR.len (by omega) hownz.rd hg1 rfl rfl fun b' o' hc' => ⟨_, fun y hy => hc' y hy 0 _ rfl, _, fun y hy => (New.blk hy hzz).cell (i := 0) rfl, ?_⟩
    all_goals
      refine qr_mp (P := Tryz.prog) (fn := Tryz.f73) (R := PgPost w most) (fun _ _ => rfl) ?_
      rw [bodegahand_Pages_aft2_vc]
      refine bif_b (fun hs => ?_) (fun hs => ?_)
      · first
        | exact absurd hs (by decide)
        | (refine seqQ_n ?_
           rw [bodegahand_Pages_aft3_vc]
           refine seqQ_n ?_
           rw [w64 (by omega) (by omega)]
           exact ⟨L.length - (q + 1), by omega, q + 1, _, rfl, by omega, rfl, hn2z⟩)
      refine seqQ_x (Qr_x (seqQ_x (blockQ_x (seqQ_n ?_))))
      refine (bodegahand_Pages_aft4_split _ _ _).mpr ?_
      refine qr_mp (P := Tryz.prog) (fn := Tryz.f73) (R := PgPost w most) (fun _ _ => rfl) ?_
      rw [bodegahand_Pages_aft4_vc]
      rintro z2 hz2
      have hnz2 : New z1 z2 := by rw [hz2]; exact new_drew _
      clear hz2
      have hzz2 := New.blk hnz2 hzz
      have hownz2 := Owns.new hnz2 hownz
      have hn0z2 := hn0z.new hnz2
      refine ⟨fun y => New z2 y, Keep.refl _ _, bif_dec (fun hql2 => ?_) (fun hql2 => ?_)⟩
      all_goals try
        have hg1 : L[q]? = some L[q] := List.getElem?_eq_getElem (by omega)
        refine rd_recS (cells := ApiPageR.cells) ApiPageR.len (by omega) hownz2.rd hg1 rfl rfl fun b' o' hc' => ⟨_, fun y hy => hc' y hy 0 _ rfl, _, fun y hy => (New.blk hy hzz2).cell (i := 0) rfl, bif_beq (fun he => ?_) (fun he => ?_)⟩
      all_goals
        rw [bodegahand_Pages_aft5_vc]
        refine bif_b (fun hs => ?_) (fun hs => ?_)
        · refine seqQ_x (blockQ_x (seqQ_n ?_))
          rw [bodegahand_Pages_aft6_vc]
          refine seqQ_n ?_
          rw [w64 (x := (i : Int) + 1) (by omega) (by omega)]
          exact ⟨l.length - (i + 1), by omega, i + 1, a, L.length, c, L, _, rfl, by omega, rfl, hn0z2, hownz2, hfr, rfl, hmost, hu64⟩
        have hmm : ¬ ((L.length : Int) ≥ most) := by first | exact of_decide_eq_false hs | cases hs
        refine seqQ_n ?_
        refine qr_mp (P := Tryz.prog) (fn := Tryz.f73) (R := PgPost w most) (fun _ _ => rfl) ?_
        rw [bodegahand_Pages_aft7_vc]
        rintro z3 hz3
        have hnz3 : New z2 z3 := by rw [hz3]; exact new_drew _
        clear hz3
        have hzz3 := New.blk hnz3 hzz2
        have hownz3 := Owns.new hnz3 hownz2
        have hn0z3 := hn0z2.new hnz3
        have hsz3 := hn0z3.size
        refine ⟨fun y => New z3 y, Keep.refl _ _, ?_⟩
        refine sub_rows (cells := ApiPageR.cells) ApiPageR.len hownz3.rd rfl hownz3.le (i := 0) (k := q) rfl rfl (by omega) hqL fun a1 hr1 hl1 => ?_
        refine ApiPageR.mk_ex p ⟨fun y hy => cellsAt_blk (New.blk hy hzz3) rfl, ?_⟩
        refine sub_rows (cells := ApiPageR.cells) ApiPageR.len hownz3.rd rfl hownz3.le (i := q) (k := L.length) rfl rfl hqL (by omega) fun a2 hr2 hl2 => ?_
        have nope : ∀ (h : Nat) k, isB (none : Option Addr) k → h ≤ k := fun h k hk => by obtain ⟨o, ho⟩ := hk; cases ho
        have nil9 : ∀ y : World, Owns y TPg 9 none 0 0 (pgrows []).flatten := fun y => Owns.nil _ _ _
        have hpp : (pgrows [p]).flatten = p.cells := by simp [pgrows]
        have fin : ∀ (a5 : Option Addr) (c5 : Nat) (w5 : World) (jj5 : List Value), New z3 w5 → Owns w5 TPg 9 a5 (0 + (q - 0) + 1 + (L.length - q)) c5 (pgrows (([] ++ (L.take q).drop 0) ++ [p] ++ (L.take L.length).drop q)).flatten → (∀ k, isB a5 k → z3.heap.size ≤ k) →
            ∃ m', m' < l.length - i ∧ ∃ (i' : Nat) (a : Option Addr) (n c : Nat) (L' : List ApiPageR) (jj : List Value), m' = l.length - i' ∧ i' ≤ l.length ∧ bodegahand_Pages_env1 a0 n0 c0 lines most a5 (0 + (q - 0) + 1 + (L.length - q)) c5 ((i : Int) + 1) jj5 = bodegahand_Pages_env1 a0 n0 c0 lines most a n c i' jj ∧ New w w5 ∧ Owns w5 TPg 9 a n c (pgrows L').flatten ∧ (∀ k, isB a k → w.heap.size ≤ k) ∧ n = L'.length ∧ (L'.length : Int) ≤ most ∧ ∀ p ∈ L', U64 p.Head := by
          intro a5 c5 w5 jj5 hn5 ho5 hf5
          have hlen : (([] ++ (L.take q).drop 0) ++ [p] ++ (L.take L.length).drop q).length = 0 + (q - 0) + 1 + (L.length - q) := by
            rw [List.length_append, List.length_append, List.length_append, hl1, hl2]; rfl
          refine ⟨l.length - (i + 1), by omega, i + 1, a5, _, c5, _, jj5, rfl, by omega, rfl, hn0z3.new hn5, ho5, fun k hk => by have := hf5 k hk; omega, hlen.symm, by rw [hlen]; omega, ?_⟩
          intro y hy
          rcases List.mem_append.1 hy with hy | hy
          · rcases List.mem_append.1 hy with hy | hy
            · rw [List.nil_append, List.drop_zero] at hy
              exact hu64 y (List.mem_of_mem_take hy)
            · rw [List.mem_singleton.1 hy]; exact hp
          · exact hu64 y (List.mem_of_mem_take (List.mem_of_mem_drop hy))
        constructor
        · refine app_k (Keep.refl _ z3) (nil9 z3) (nope _) hr1 hl1.symm (by omega) fun a3 c3 w3 hn3 ho3 hf3 => ⟨hn3, ?_⟩
          rintro b4 w4 hb4 hw4
          obtain ⟨hz4, hn4⟩ := box_new hb4 hw4
          have hz4 : Blk w4 b4 p.cells TPg := hz4
          clear hw4
          have hn34 := hn3.new hn4
          refine ⟨hn34, ?_⟩
          refine app_k hn34 (Owns.new hn4 ho3) hf3 (s := some ⟨b4, 0, none⟩) (m := 1) (ys := [p]) (by rw [hpp]; exact rd_blk hz4 (by simp)) rfl (by omega) fun a5 c5 w5 hn5 ho5 hf5 => ⟨hn5, ?_⟩
          refine app_k hn5 ho5 hf5 (hr2.new hn5) hl2.symm (by omega) fun a6 c6 w6 hn6 ho6 hf6 => ⟨hn6, ?_⟩
          refine blockQ_n (seqQ_n ?_)
          rw [bodegahand_Pages_aft6_vc]
          refine seqQ_n ?_
          rw [w64 (x := (i : Int) + 1) (by omega) (by omega)]
          exact fin a6 c6 w6 _ hn6 ho6 hf6
        · rintro b4 w4 hb4 hw4
          obtain ⟨hz4, hn4⟩ := box_new hb4 hw4
          have hz4 : Blk w4 b4 p.cells TPg := hz4
          clear hw4
          have hs4 := hn4.size
          refine ⟨hn4, ?_⟩
          refine app_k (Keep.refl _ w4) (nil9 w4) (nope _) (hr1.new hn4) hl1.symm (by omega) fun a3 c3 w3 hn3 ho3 hf3 => ⟨hn4.new hn3, ?_⟩
          refine app_k hn3 ho3 hf3 (s := some ⟨b4, 0, none⟩) (m := 1) (ys := [p]) (by rw [hpp]; exact rd_blk (New.blk hn3 hz4) (by simp)) rfl (by omega) fun a5 c5 w5 hn5 ho5 hf5 => ⟨hn4.new hn5, ?_⟩
          refine app_k hn5 ho5 hf5 (hr2.new (hn4.new hn5)) hl2.symm (by omega) fun a6 c6 w6 hn6 ho6 hf6 => ⟨hn4.new hn6, ?_⟩
          refine blockQ_n (seqQ_n ?_)
          rw [bodegahand_Pages_aft6_vc]
          refine seqQ_n ?_
          rw [w64 (x := (i : Int) + 1) (by omega) (by omega)]
          exact fin a6 c6 w6 _ (hn4.new hn6) ho6 fun k hk => by have := hf6 k hk; omega
  · refine seqQ_x (blockQ_x (seqQ_n ?_))
    refine qr_mp (P := Tryz.prog) (fn := Tryz.f73) (R := PgPost w most) (fun _ _ => rfl) ?_
    rw [bodegahand_Pages_aft1_vc]
    exact ⟨a, c, L, rfl, hown, hnu, hfr, hmost, hu64⟩
end Go.Proofs.YtjifihffjmbjfaaGreat
