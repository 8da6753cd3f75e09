/- Values made of raw numbers. -/
import Derived.Test.YtppcleiekdbndaaGreatPick
import Derived.Test.YtppcleiekdbndaaGreatRView
import Derived.Test.YtppcleiekdbndaaGreatCodeHand
set_option linter.unusedVariables false
namespace Go.Proofs.YtppcleiekdbndaaGreat
open Go.Eng

abbrev NoM : Nat → Prop := fun _ => False
theorem offNo (a : Option Addr) : Off NoM a := by cases a with
  | none => exact trivial
  | some a => exact id

theorem pick_in {x n : Int} (hn : 1 ≤ n) : 0 ≤ (if n < 1 then 0 else x % n) ∧ (if n < 1 then 0 else x % n) < n := by
  rw [if_neg (by omega)]
  exact ⟨Int.emod_nonneg x (by omega), Int.emod_lt_of_pos x (by omega)⟩

theorem Lines_c (w : World) {x : Int} (hx : I64 x) : Does 56 [.int .i64 x] w fun v w' => ∃ n : Int, v = .int .i64 n ∧ 98 ≤ n ∧ n ≤ 104 ∧ w' = w := by
  refine does Tryz.func56 ?_
  rw [bodegahand_Lines_vc]
  refine at_call (Pick_c w x 7 hx (by omega)) ?_
  rintro v w1 ⟨rfl, rfl⟩
  have := pick_in (x := x) (n := 7) (by omega)
  refine ⟨_, rfl, _, rfl, ?_, ?_, rfl⟩ <;> rw [w64 (by omega) (by omega)] <;> omega

/-- A view whose members are sound. -/
structure VGood (v : Vw) : Prop where
  num : 0 ≤ v.number ∧ v.number < 16
  boot : ∀ m ∈ v.mem, 1 ≤ m.Boot
  ne : v.mem ≠ []
  few : v.mem.length ≤ 5

abbrev Under (A : Nat) : Nat → Prop := fun k => k < A
theorem vw_at {w : World} {n : Int} {a : Option Addr} {c A : Nat} {L : List ApiMemberR} (ho : Owns w TMb 3 a L.length c (mrows L).flatten) (hl : L.length ≤ 1000000) (hf : ∀ k, isB a k → A ≤ k) : ViewAt (Under A) w ⟨n, a, L.length, c⟩ ⟨n, L⟩ :=
  ⟨rfl, rfl, ho.le, ho.rd, off_of ho.rd fun k hk h => Nat.lt_irrefl _ (Nat.lt_of_lt_of_le h (hf k hk)), hl⟩

theorem ViewAt.mono {M M' : Nat → Prop} {w : World} {r : ApiViewR} {v : Vw} (h : ViewAt M w r v) (hm : ∀ k, k < w.heap.size → M' k → M k) : ViewAt M' w r v := by
  refine ⟨h.num, h.len, h.cap, h.rd, ?_, h.small⟩
  rcases h.off with e | e
  · exact .inl e
  · rcases h.rd with e2 | ⟨b, o, e2, hc⟩
    · exact .inl e2
    · by_cases he : (mrows v.mem).flatten = []
      · exact .inl he
      · rw [e2] at e ⊢
        refine .inr fun hM => e (hm _ ?_ hM)
        cases hl : (mrows v.mem).flatten with
        | nil => exact absurd hl he
        | cons x xs => exact cell_lt (hc 0 x (by rw [hl]; rfl))

theorem ViewAt.keep {M N : Nat → Prop} {w w' : World} {r : ApiViewR} {v : Vw} (h : ViewAt M w r v) (hk : Keep N w w') (hN : ∀ k, N k → M k) : ViewAt M w' r v :=
  ⟨h.num, h.len, h.cap, h.rd.keep hk (h.off.imp id fun e => by cases ha : r.Members with
    | none => exact trivial
    | some a => rw [ha] at e; exact fun hn => e (hN _ hn)), h.off, h.small⟩

theorem RInitial_c (w : World) {n : Int} (h1 : 1 ≤ n) (h5 : n ≤ 5) : Does 106 [.int .i64 n] w fun x w' => ∃ (a : Option Addr) (c : Nat) (L : List ApiMemberR), x = .tuple #[ApiViewR.val ⟨0, a, L.length, c⟩, .int .i64 0] ∧ Owns w' TMb 3 a L.length c (mrows L).flatten ∧ New w w' ∧ (∀ m ∈ L, 1 ≤ m.Boot) ∧ (L.length : Int) = n ∧ (∀ k, isB a k → w.heap.size ≤ k) := by
  refine does Tryz.func106 ?_
  rw [bodegaref9_Initial_vc]
  rintro b1 w1 hb1 hw1
  obtain ⟨hz1, hn1⟩ := box_new hb1 hw1
  have hz1 : Blk w1 b1 (ApiViewR.cells ⟨0, none, 0, 0⟩) TVw := hz1
  clear hw1
  refine bif_dec (fun hp => absurd hp (by omega)) (fun _ => bif_dec (fun hp => absurd hp (by omega)) (fun _ => ?_))
  refine box_k (vs := ApiViewR.cells ⟨0, none, 0, 0⟩) rfl (ApiViewR.single _) fun b2 w3 hb2 hz3 hn3 => ?_
  have hz13 := New.blk hn3 hz1
  have hn03 := hn1.new hn3
  have hs1 := hn1.size
  have hs1' := hz1.lt
  refine loop_rule mix (fun m env u => ∃ (i : Nat) (a : Option Addr) (c : Nat) (L : List ApiMemberR) (jj : List Value), m = n.toNat - i ∧ i ≤ n.toNat ∧ env = bodegaref9_Initial_env1 n ⟨b1, 0, none⟩ ⟨b2, 0, none⟩ i jj ∧ New w u ∧ Blk u b1 (ApiViewR.cells ⟨0, none, 0, 0⟩) TVw ∧ Blk u b2 (ApiViewR.cells ⟨0, a, L.length, c⟩) TVw ∧ Owns u TMb 3 a L.length c (mrows L).flatten ∧ (∀ k, isB a k → b2 < k) ∧ (∀ m ∈ L, 1 ≤ m.Boot) ∧ L.length = i) n.toNat
    ⟨0, none, 0, [], _, by omega, by omega, rfl, hn03, hz13, hz3, Owns.nil _ _ _, (fun k hk => by obtain ⟨o, ho⟩ := hk; cases ho), by simp, rfl⟩ ?_
  rintro m env u ⟨i, a, c, L, jj, rfl, hi, rfl, hnu, hu1, hu2, hown, hfr, hbt, hLi⟩
  rw [bodegaref9_Initial_loop1_body]
  refine bif_dec (fun hq => ?_) (fun hq => ?_)
  · refine ⟨_, _, _, hu2.cell (i := 1) rfl, ?_⟩
    refine pushM_k hown rfl (m := ⟨i, 1, true⟩) (by omega) ?_
    intro b3 ap cap u3 hb3 ho3 hk3 hap
    have hu13 := hk3.blk hu1 fun e => by have := hfr b1 e; omega
    have hu23 := hk3.blk hu2 fun e => by have := hfr b2 e; omega
    have hus := hu2.lt
    have hfr3 : ∀ k, isB ap k → b2 < k := fun k hk => by
      rcases hap k hk with h1 | h1
      · exact hfr k h1
      · omega
    refine setv_k (b := b2) hu23 (o := 0 + 1) (by simp [ApiViewR.cells]) fun u4 hu24 hk4 => ?_
    rw [w64 (by omega) (by omega)]
    refine ⟨n.toNat - (i + 1), by omega, i + 1, ap, cap, L ++ [⟨i, 1, true⟩], _, rfl, by omega, rfl, ?_, hk4.blk hu13 (by omega), ?_, ?_, hfr3, ?_, by simp [hLi]⟩
    · have h1 : New w u3 := new_fresh hnu hk3 fun k hk => by have := hfr k hk; omega
      exact h1.trans hk4 fun k hlt e => by omega
    · rw [List.length_append]; exact hu24
    · rw [List.length_append]; exact Owns.keep hk4 ho3 fun k hk e => by have := hfr3 k hk; omega
    · intro m hm
      rcases List.mem_append.1 hm with h | h
      · exact hbt m h
      · simp at h; subst h; simp
  · have hin : i = n.toNat := by omega
    rw [bodegaref9_Initial_aft1_vc]
    refine ApiViewR.mk_ex ⟨0, a, L.length, c⟩ ⟨cellsAt_blk hu2 rfl, ?_⟩
    refine ⟨wrAt_blk hu1 (by simp [ApiViewR.cells]) (ApiViewR.single _), fun u2 hu => ?_⟩
    have hk : Keep (fun k => k = b1) u u2 := by rw [hu]; exact keep_puts _ _ _ _ _
    have hz : Blk u2 b1 (ApiViewR.cells ⟨0, a, L.length, c⟩) TVw := by rw [hu]; exact hu1.puts
    refine ApiViewR.mk_ex ⟨0, a, L.length, c⟩ ⟨cellsAt_blk hz rfl, rfl, a, c, L, rfl, ?_, ?_, hbt, by omega, ?_⟩
    · exact Owns.keep hk hown fun k hk' e => by have := hfr k hk'; omega
    · exact hnu.trans hk fun k hlt e => by omega
    · intro k hk'; have := hfr k hk'; omega

theorem Start_c (w : World) {n : Int} (h1 : 1 ≤ n) (h5 : n ≤ 5) : Does 57 [.int .i64 n] w fun x w' => ∃ r v, x = ApiViewR.val r ∧ ViewAt (Under w.heap.size) w' r v ∧ New w w' ∧ VGood v ∧ (v.mem.length : Int) = n := by
  refine does Tryz.func57 ?_
  rw [bodegahand_Start_vc]
  rintro b1 w1 hb1 hw1
  obtain ⟨hz1, hn1⟩ := box_new hb1 hw1
  have hz1 : Blk w1 b1 (ApiViewR.cells ⟨0, none, 0, 0⟩) TVw := hz1
  clear hw1
  refine at_call (RInitial_c w1 h1 h5) ?_
  rintro v w2 ⟨a, c, L, rfl, hown, hn2, hbt, hLn, hfr⟩
  refine ApiViewR.mk_ex ⟨0, a, L.length, c⟩ ⟨_, rfl, ?_⟩
  refine box_k (vs := ApiViewR.cells ⟨0, a, L.length, c⟩) rfl (ApiViewR.single _) fun b2 w3 hb2 hz3 hn3 => ?_
  refine ApiViewR.mk_ex ⟨0, a, L.length, c⟩ ⟨cellsAt_blk hz3 rfl, ?_⟩
  have hz13 := New.blk (hn2.new hn3) hz1
  have hown3 := Owns.new hn3 hown
  refine ⟨wrAt_blk hz13 (by simp [ApiViewR.cells]) (ApiViewR.single _), fun u2 hu => ?_⟩
  have hk : Keep (fun k => k = b1) w3 u2 := by rw [hu]; exact keep_puts _ _ _ _ _
  have hz : Blk u2 b1 (ApiViewR.cells ⟨0, a, L.length, c⟩) TVw := by rw [hu]; exact hz13.puts
  have hne : ∀ k, isB a k → k ≠ b1 := fun k hk' e => by
    subst e
    obtain ⟨o, ho⟩ := hk'
    rcases hown3.2 with ⟨h, _⟩ | ⟨g, cur, he, hg, _⟩
    · rw [h] at ho; cases ho
    · rw [he] at ho
      simp at ho
      exact absurd (hg.uniq (ho.1 ▸ hz13)).2 (by decide)
  refine ApiViewR.mk_ex ⟨0, a, L.length, c⟩ ⟨cellsAt_blk hz rfl, rfl, _, ⟨0, L⟩, rfl, vw_at (Owns.keep hk hown3 hne) (by omega) (fun k hk' => by have := hfr k hk'; have := hn1.size; omega), ?_, ⟨⟨by simp, by simp⟩, hbt, fun e => ?_, ?_⟩, hLn⟩
  · exact (hn1.new (hn2.new hn3)).trans hk fun k hlt e => by omega
  · have e : L = [] := e
    rw [e] at hLn
    simp at hLn
    omega
  · show L.length ≤ 5
    omega

/-- A view is handed out. -/
theorem vout_k {u : World} {b1 b2 : Nat} {r : ApiViewR} {zs : List Value} (h1 : Blk u b1 zs TVw) (hl : zs.length = 2) (h2 : Blk u b2 r.cells TVw) {K : ApiViewR → World → Prop} (hk : ∀ w', Keep (fun k => k = b1) u w' → K r w') :
    ApiViewR.ex fun r => cellsAt u ⟨b2, 0, none⟩ 0 r.cells ∧ wrAt u ⟨b1, 0, none⟩ 0 r.cells ∧ ∀ w4, w4 = puts u ⟨b1, 0, none⟩ 0 r.cells → ApiViewR.ex fun res => cellsAt w4 ⟨b1, 0, none⟩ 0 res.cells ∧ w4 = w4 ∧ K res w4 := by
  refine ApiViewR.mk_ex r ⟨cellsAt_blk h2 rfl, wrAt_blk h1 (by rw [hl]; exact Nat.le_refl _) (ApiViewR.single _), fun w4 hw => ?_⟩
  have hk4 : Keep (fun k => k = b1) u w4 := by rw [hw]; exact keep_puts _ _ _ _ _
  have hz : Blk w4 b1 r.cells TVw := by
    rw [hw]
    have := h1.puts (o := 0) (i := 0) (vs := r.cells)
    rw [Nat.add_zero, splice_all (by rw [hl]; rfl)] at this
    exact this
  exact ApiViewR.mk_ex r ⟨cellsAt_blk hz rfl, rfl, hk w4 hk4⟩

/-- A member is appended to a view's members. -/
theorem vapp_k {u : World} {b2 bm : Nat} {num : Int} {a : Option Addr} {n c : Nat} {L : List ApiMemberR} (h2 : Blk u b2 (ApiViewR.cells ⟨num, a, n, c⟩) TVw) (hown : Owns u TMb 3 a n c (mrows L).flatten) (hn : n = L.length) (hfr : ∀ k, isB a k → b2 < k) {m : ApiMemberR} (hm : Blk u bm m.cells TMb) (hb : n ≤ 1000000)
    {K : Option Addr → Nat → Nat → ApiMemberR → Nat → Option Addr → Nat → Nat → World → Prop}
    (hk : ∀ x b3 ap cap w9, Blk w9 b2 (ApiViewR.cells ⟨num, ap, n + 1, cap⟩) TVw → Owns w9 TMb 3 ap (n + 1) cap (mrows (L ++ [m])).flatten → Keep (fun k => k = b2 ∨ isB a k) u w9 → (∀ k, isB ap k → b2 < k) → K a n c x b3 ap (n + 1) cap w9) :
    ∃ (Mm : Option Addr) (Ml Mc : Nat), u.cell? ⟨b2, 0 + 1, none⟩ = some (.slice Mm Ml Mc) ∧ ApiMemberR.ex fun r => cellsAt u ⟨bm, 0, none⟩ 0 r.cells ∧ ∀ b3 w7, b3 = u.heap.size → w7 = u.alloc (.cells r.cells.toArray TMb) → ∃ (ap : Option Addr) (al ac : Nat), ∃ w8, (Builtin.append_ #[TSM, TSM] TSM #[(.slice Mm Ml Mc), (.slice (some ⟨b3, 0, none⟩) 1 1)]).run Tryz.prog w7 = .ok (.slice ap al ac) w8 ∧
      (∃ x, w8.cell? ⟨b2, 0 + 1, none⟩ = some x) ∧ w8.frozen? ⟨b2, 0 + 1, none⟩ = false ∧ ∀ w9, w9 = w8.setCell ⟨b2, 0 + 1, none⟩ (.slice ap al ac) → K Mm Ml Mc r b3 ap al ac w9 := by
  refine ⟨a, n, c, h2.cell (i := 1) rfl, ApiMemberR.mk_ex m ⟨cellsAt_blk hm rfl, ?_⟩⟩
  refine pushM_k hown hn hb ?_
  intro b3 ap cap u3 hb3 ho3 hk3 hap
  have hu23 := hk3.blk h2 fun e => by have := hfr b2 e; omega
  have hus := h2.lt
  have hfr3 : ∀ k, isB ap k → b2 < k := fun k hk => by
    rcases hap k hk with h1 | h1
    · exact hfr k h1
    · omega
  refine setv_k (b := b2) hu23 (o := 0 + 1) (by simp [ApiViewR.cells]) fun u4 hu24 hk4 => ?_
  refine hk m b3 ap cap u4 hu24 ?_ (((hk3.mono fun _ _ h => .inr h).trans hk4 fun _ _ h => .inl h)) hfr3
  exact Owns.keep hk4 ho3 fun k hk e => by have := hfr3 k hk; omega

set_option maxHeartbeats 1000000 in
theorem HView_c (w : World) {number mask full n : Int} {a3 : Option Addr} {n3 c3 : Nat} {boots : List Int} (h1 : I64 number) (h2 : I64 mask) (h3 : I64 full) (hr : Rd w a3 (is boots)) (hb : n3 = boots.length) (hbs : boots.length ≤ 1000) (hbi : ∀ x ∈ boots, I64 x) (hn : 1 ≤ n) (hn5 : n ≤ 5) :
    Does 58 [.int .i64 number, .int .i64 mask, .int .i64 full, .slice a3 n3 c3, .int .i64 n] w fun x w' => ∃ r v, x = ApiViewR.val r ∧ ViewAt (Under w.heap.size) w' r v ∧ New w w' ∧ VGood v := by
  refine does Tryz.func58 ?_
  rw [bodegahand_View_vc]
  rintro b1 w1 hb1 hw1
  obtain ⟨hz1, hn1⟩ := box_new hb1 hw1
  have hz1 : Blk w1 b1 (ApiViewR.cells ⟨0, none, 0, 0⟩) TVw := hz1
  clear hw1
  refine at_call (Pick_c w1 number 16 h1 (by omega)) ?_
  rintro v w2 ⟨rfl, rfl⟩
  have hnum := pick_in (x := number) (n := 16) (by omega)
  generalize (if (16 : Int) < 1 then 0 else number % 16) = num at hnum
  refine ⟨_, rfl, ?_⟩
  refine box_k (vs := ApiViewR.cells ⟨num, none, 0, 0⟩) rfl (ApiViewR.single _) fun b2 w3 hb2 hz3 hn3 => ?_
  have hz13 := New.blk hn3 hz1
  have hn03 := hn1.new hn3
  have hs1 := hn1.size
  have hs1' := hz1.lt
  refine loop_rule mix (fun m env u => ∃ (i : Nat) (any : Bool) (a : Option Addr) (nn c : Nat) (L : List ApiMemberR) (jj : List Value), m = n.toNat - i ∧ i ≤ n.toNat ∧ env = bodegahand_View_env1 mask full a3 n3 c3 n ⟨b1, 0, none⟩ ⟨b2, 0, none⟩ any i jj ∧ New w u ∧ Blk u b1 (ApiViewR.cells ⟨0, none, 0, 0⟩) TVw ∧ Blk u b2 (ApiViewR.cells ⟨num, a, nn, c⟩) TVw ∧ Owns u TMb 3 a nn c (mrows L).flatten ∧ (∀ k, isB a k → b2 < k) ∧ (∀ m ∈ L, 1 ≤ m.Boot) ∧ nn = L.length ∧ L.length ≤ i) n.toNat
    ⟨0, false, none, 0, 0, [], _, by omega, by omega, rfl, hn03, hz13, hz3, Owns.nil _ _ _, (fun k hk => by obtain ⟨o, ho⟩ := hk; cases ho), by simp, rfl, by simp⟩ ?_
  rintro m env u ⟨i, any, a, nn, c, L, jj, rfl, hi, rfl, hnu, hu1, hu2, hown, hfr, hbt, rfl, hLi⟩
  rw [bodegahand_View_loop1_body]
  refine bif_dec (fun hq => ?_) (fun hq => ?_)
  · refine at_call (Pick_c u mask 32 h2 (by omega)) ?_
    rintro v u2 ⟨rfl, rfl⟩
    have hwi : IntKind.u64.wrap (i : Int) = i := wrapu (by omega) (by omega)
    refine ⟨_, rfl, by rw [hwi]; omega, bif_beq (fun he => ?_) (fun he => ?_)⟩
    · rw [w64 (by omega) (by omega)]
      exact ⟨n.toNat - (i + 1), by omega, i + 1, any, a, L.length, c, L, _, rfl, by omega, rfl, hnu, hu1, hu2, hown, hfr, hbt, rfl, by omega⟩
    · refine at_call (Pick_c u2 full 32 h3 (by omega)) ?_
      rintro v u3 ⟨rfl, rfl⟩
      refine ⟨_, rfl, by rw [hwi]; omega, ?_⟩
      generalize (band IntKind.i64 (bshr IntKind.i64 (if (32 : Int) < 1 then 0 else full % 32) (IntKind.u64.wrap (i : Int))) 1 == 1) = fl
      refine box_k (vs := ApiMemberR.cells ⟨i, 1, fl⟩) rfl (ApiMemberR.single _) fun bm u4 hbm hzm hn4 => ?_
      have hu14 := New.blk hn4 hu1
      have hu24 := New.blk hn4 hu2
      have hown4 := Owns.new hn4 hown
      have hus := hu2.lt
      have hus1 := hu1.lt
      have hnu4 := hnu.new hn4
      -- what follows the append
      have next : ∀ (any' : Bool) (bt : Int) (u5 : World) (jj' : Option Addr → Nat → Nat → ApiMemberR → Nat → Option Addr → Nat → Nat → List Value), 1 ≤ bt → Blk u5 bm (ApiMemberR.cells ⟨i, bt, fl⟩) TMb → Keep (fun k => k = bm) u4 u5 →
          ∃ (Mm : Option Addr) (Ml Mc : Nat), u5.cell? ⟨b2, 0 + 1, none⟩ = some (.slice Mm Ml Mc) ∧ ApiMemberR.ex fun r => cellsAt u5 ⟨bm, 0, none⟩ 0 r.cells ∧ ∀ b3 w7, b3 = u5.heap.size → w7 = u5.alloc (.cells r.cells.toArray TMb) → ∃ (ap : Option Addr) (al ac : Nat), ∃ w8, (Builtin.append_ #[TSM, TSM] TSM #[(.slice Mm Ml Mc), (.slice (some ⟨b3, 0, none⟩) 1 1)]).run Tryz.prog w7 = .ok (.slice ap al ac) w8 ∧
            (∃ x, w8.cell? ⟨b2, 0 + 1, none⟩ = some x) ∧ w8.frozen? ⟨b2, 0 + 1, none⟩ = false ∧ ∀ w9, w9 = w8.setCell ⟨b2, 0 + 1, none⟩ (.slice ap al ac) → ∃ m', m' < n.toNat - i ∧ ∃ (i' : Nat) (any'' : Bool) (a : Option Addr) (nn c : Nat) (L : List ApiMemberR) (jj : List Value), m' = n.toNat - i' ∧ i' ≤ n.toNat ∧ bodegahand_View_env1 mask full a3 n3 c3 n ⟨b1, 0, none⟩ ⟨b2, 0, none⟩ any' (IntKind.i64.wrap ((i : Int) + 1)) (jj' Mm Ml Mc r b3 ap al ac) = bodegahand_View_env1 mask full a3 n3 c3 n ⟨b1, 0, none⟩ ⟨b2, 0, none⟩ any'' i' jj ∧ New w w9 ∧ Blk w9 b1 (ApiViewR.cells ⟨0, none, 0, 0⟩) TVw ∧ Blk w9 b2 (ApiViewR.cells ⟨num, a, nn, c⟩) TVw ∧ Owns w9 TMb 3 a nn c (mrows L).flatten ∧ (∀ k, isB a k → b2 < k) ∧ (∀ m ∈ L, 1 ≤ m.Boot) ∧ nn = L.length ∧ L.length ≤ i' := by
        intro any' bt u5 jj' hbt1 hzm5 hk5
        have hne : ∀ k, k = bm → b2 < k := fun k e => by omega
        have hfr4 : ∀ k, isB a k → k ≠ bm := fun k hk e => by
          have := Owns.lt hown hk
          omega
        refine vapp_k (hk5.blk hu24 (by omega)) (Owns.keep hk5 hown4 hfr4) rfl hfr hzm5 (by omega) ?_
        intro x b3 ap cap w9 hz9 ho9 hk9 hf9
        rw [w64 (by omega) (by omega)]
        refine ⟨n.toNat - (i + 1), by omega, i + 1, any', ap, L.length + 1, cap, L ++ [⟨i, bt, fl⟩], _, rfl, by omega, rfl, ?_, ?_, hz9, ho9, hf9, ?_, by simp, by simp; omega⟩
        · refine (hnu4.trans hk5 fun k hlt e => by omega).trans hk9 fun k hlt e => ?_
          rcases e with e | e
          · omega
          · have := hfr k e; omega
        · refine hk9.blk (hk5.blk hu14 (by omega)) fun e => ?_
          rcases e with e | e
          · omega
          · have := hfr b1 e; omega
        · intro m hm
          rcases List.mem_append.1 hm with h | h
          · exact hbt m h
          · simp at h; subst h; exact hbt1
      refine bif_dec (fun hlt => ?_) (fun hlt => ?_)
      · have hil : i < boots.length := by omega
        have hg : boots[i]? = some boots[i] := List.getElem?_eq_getElem hil
        rcases hr.new hnu4 with he | ⟨b, o, ha3, hcell⟩
        · have : boots = [] := by simpa [is] using he
          rw [this] at hil
          simp at hil
        · subst ha3
          refine idxS_mk (by omega) (by omega) ⟨boots[i], ?_, ?_⟩
          · have := hcell i (.int .i64 boots[i]) (by simp [is, hg])
            simpa using this
          refine at_call (Pick_c u4 boots[i] 31 (hbi _ (List.getElem_mem hil)) (by omega)) ?_
          rintro v u5 ⟨rfl, rfl⟩
          have hp := pick_in (x := boots[i]) (n := 31) (by omega)
          generalize (if (31 : Int) < 1 then 0 else boots[i] % 31) = p at hp
          refine ⟨_, rfl, ?_⟩
          refine setv_k (b := bm) hzm (o := 1) (by simp [ApiMemberR.cells]) fun u6 hzm6 hk6 => ?_
          rw [w64 (x := p + 1) (by omega) (by omega)] at hzm6
          refine bif_b (fun ha => ?_) (fun ha => ⟨_, hzm6.cell (i := 2) rfl, ?_⟩)
          · exact next true (p + 1) u6 _ (by omega) hzm6 hk6
          · exact next fl (p + 1) u6 _ (by omega) hzm6 hk6
      · refine bif_b (fun ha => ?_) (fun ha => ⟨_, hzm.cell (i := 2) rfl, ?_⟩)
        · exact next true 1 u4 _ (by omega) hzm (Keep.refl _ _)
        · exact next fl 1 u4 _ (by omega) hzm (Keep.refl _ _)
  · rw [bodegahand_View_aft1_vc]
    have fin : ∀ (r : ApiViewR) (L' : List ApiMemberR) (u' w' : World), New w u' → r = ⟨num, r.Members, L'.length, r.Members_c⟩ → Owns u' TMb 3 r.Members L'.length r.Members_c (mrows L').flatten → (∀ k, isB r.Members k → b2 < k) → (∀ m ∈ L', 1 ≤ m.Boot) → L' ≠ [] → L'.length ≤ 5 → Keep (fun k => k = b1) u' w' →
        ∃ r' v, ApiViewR.val r = ApiViewR.val r' ∧ ViewAt (Under w.heap.size) w' r' v ∧ New w w' ∧ VGood v := by
      intro r L' u' w' hn' hr' ho' hf' hb' hne' h5' hk'
      have ho2 := Owns.keep hk' ho' fun k hk e => by have := hf' k hk; omega
      exact ⟨_, ⟨num, L'⟩, by rw [hr'], vw_at (c := r.Members_c) (a := r.Members) ho2 (by omega) (fun k hk => by have := hf' k hk; omega), hn'.trans hk' fun k hlt e => by omega, ⟨hnum, hb', hne', h5'⟩⟩
    refine ⟨_, _, _, hu2.cell (i := 1) rfl, bif_beq (fun h0 => ?_) (fun h0 => ?_)⟩
    · rintro b4 w4 hb4 hw4
      obtain ⟨hz4, hn4⟩ := box_new hb4 hw4
      have hz4 : Blk w4 b4 (ApiMemberR.cells ⟨0, 1, false⟩) TMb := hz4
      clear hw4
      have hus := hu2.lt
      have hus1 := hu1.lt
      refine setv_k (b := b2) (New.blk hn4 hu2) (o := 0 + 1) (by simp [ApiViewR.cells]) fun u5 hu25 hk5 => ?_
      have hu25 : Blk u5 b2 (ApiViewR.cells ⟨num, some ⟨b4, 0, none⟩, 1, 1⟩) TVw := hu25
      have hz45 := hk5.blk hz4 (by omega)
      have hu15 := hk5.blk (New.blk hn4 hu1) (by omega)
      have hn5 : New w u5 := (hnu.new hn4).trans hk5 fun k hlt e => by omega
      have hfr5 : ∀ k, isB (some ⟨b4, 0, none⟩) k → b2 < k := fun k hk => by obtain ⟨o, ho⟩ := hk; simp at ho; omega
      refine bif_not (fun ha => ?_) (fun ha => ?_)
      · refine ⟨some ⟨b4, 0, none⟩, 1, 1, hu25.cell (i := 1) rfl, idxS_mk (by decide) (by decide) ?_⟩
        refine setv_k (b := b4) hz45 (o := 0 + Int.toNat 0 * 3 + 2) (by simp [ApiMemberR.cells]) fun u6 hz46 hk6 => ?_
        have hz46 : Blk u6 b4 (ApiMemberR.cells ⟨0, 1, true⟩) TMb := hz46
        refine vout_k (hk6.blk hu15 (by omega)) rfl (hk6.blk hu25 (by omega)) fun w' hk' => ?_
        exact fin ⟨num, some ⟨b4, 0, none⟩, 1, 1⟩ [⟨0, 1, true⟩] u6 w' (hn5.trans hk6 fun k hlt e => by omega) rfl ⟨rfl, .inr ⟨b4, _, rfl, hz46, Nat.le_refl _, by simp [maxLen], rfl, rfl⟩⟩ hfr5 (by simp) (by simp) (by simp) hk'
      · refine vout_k hu15 rfl hu25 fun w' hk' => ?_
        exact fin ⟨num, some ⟨b4, 0, none⟩, 1, 1⟩ [⟨0, 1, false⟩] u5 w' hn5 rfl ⟨rfl, .inr ⟨b4, _, rfl, hz45, Nat.le_refl _, by simp [maxLen], rfl, rfl⟩⟩ hfr5 (by simp) (by simp) (by simp) hk'
    · have hne : L ≠ [] := fun e => by subst e; simp at h0
      refine bif_not (fun ha => ?_) (fun ha => ?_)
      · refine ⟨_, _, _, hu2.cell (i := 1) rfl, ?_⟩
        rcases hown.2 with ⟨_, e, _⟩ | ⟨g, cur, rfl, hg, hnc, hcm, hcl, htk⟩
        · exact absurd (List.eq_nil_of_length_eq_zero e) hne
        · have hpos : 0 < L.length := List.length_pos_iff.2 hne
          refine idxS_mk (by omega) (by omega) ?_
          have hlt : 2 < cur.length := by omega
          have e2 : 0 + Int.toNat 0 * 3 + 2 = 2 := rfl
          have hcell : u.cell? ⟨g, 0 + Int.toNat 0 * 3 + 2, none⟩ = some cur[2] := hg.cell (List.getElem?_eq_getElem hlt)
          refine ⟨⟨_, hcell⟩, hg.frozen, fun u6 hu6 => ?_⟩
          have hk6 : Keep (fun k => k = g) u u6 := by rw [hu6]; exact keep_setCell _ _ _ _
          have ho6 := Owns.setCell hown (i := 2) (by omega) (.bool true)
          obtain ⟨m, L', rfl⟩ : ∃ m L', L = m :: L' := by
            cases L with
            | nil => exact absurd rfl hne
            | cons m L' => exact ⟨m, L', rfl⟩
          have hset : (mrows (m :: L')).flatten.set 2 (.bool true) = (mrows (⟨m.Node, m.Boot, true⟩ :: L')).flatten := rfl
          rw [hset] at ho6
          have ho6 : Owns u6 TMb 3 (some ⟨g, 0, none⟩) (m :: L').length c (mrows (⟨m.Node, m.Boot, true⟩ :: L')).flatten := by rw [hu6]; exact ho6
          have hgb : b2 < g := hfr g ⟨0, rfl⟩
          refine vout_k (hk6.blk hu1 (by omega)) rfl (hk6.blk hu2 (by omega)) fun w' hk' => ?_
          refine fin ⟨num, some ⟨g, 0, none⟩, (m :: L').length, c⟩ (⟨m.Node, m.Boot, true⟩ :: L') u6 w' (hnu.trans hk6 fun k hlt e => by omega) rfl ho6 hfr (fun x hx => ?_) (by simp) (by simp at hLi ⊢; omega) hk'
          rcases List.mem_cons.1 hx with rfl | hx
          · exact hbt m (by simp)
          · exact hbt x (List.mem_cons_of_mem _ hx)
      · refine vout_k hu1 rfl hu2 fun w' hk' => ?_
        exact fin ⟨num, a, L.length, c⟩ L u w' hnu rfl hown hfr hbt hne (by omega) hk'
end Go.Proofs.YtppcleiekdbndaaGreat
