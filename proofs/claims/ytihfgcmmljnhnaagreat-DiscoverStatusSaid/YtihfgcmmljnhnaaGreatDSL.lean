/- The law DiscoverStatus. -/
import Derived.Test.YtihfgcmmljnhnaaGreatDS
import Derived.Test.YtihfgcmmljnhnaaGreatAwk11
import Derived.Test.YtihfgcmmljnhnaaGreatVin
set_option linter.unusedVariables false
namespace Go.Proofs.YtihfgcmmljnhnaaGreat
open Go.Eng

theorem RFind_c {M : Nat → Prop} {w : World} {r : ApiViewR} {v : Vw} (h : ViewAt M w r v) (n : Int) : Does 10 [r.val, .int .i64 n] w fun x w' => ∃ (m : ApiMemberR) (f : Bool), x = .tuple #[m.val, .bool f] ∧ New w w' := by
  refine does Tryz.func10 ?_
  rw [bodegaref9_Find_vc]
  rintro b1 w1 hb1 hw1
  obtain ⟨hz1, hn1⟩ := box_new hb1 hw1
  have hz1 : Blk w1 b1 r.cells TVw := hz1
  clear hw1
  rintro b2 w2 hb2 hw2
  obtain ⟨hz2, hn2⟩ := box_new hb2 hw2
  have hz2 : Blk w2 b2 (ApiMemberR.cells ⟨0, 0, false⟩) TMb := hz2
  clear hw2
  have hz := New.blk hn2 hz1
  have hn := hn1.new hn2
  have hlen := h.len
  have hsm := h.small
  have hs1 := hn1.size
  have out : ∀ (m : ApiMemberR) (f : Bool) (w3 : World), w3 = puts w2 ⟨b2, 0, none⟩ 0 m.cells → ApiMemberR.ex fun res => cellsAt w3 ⟨b2, 0, none⟩ 0 res.cells ∧ w3 = w3 ∧ ∃ (m : ApiMemberR) (f' : Bool), Value.tuple #[res.val, .bool f] = .tuple #[m.val, .bool f'] ∧ New w w3 := by
    intro m f w3 hw3
    have hk : Keep (fun k => k = b2) w2 w3 := by rw [hw3]; exact keep_puts _ _ _ _ _
    have hz3 : Blk w3 b2 m.cells TMb := by rw [hw3]; exact hz2.puts
    exact ApiMemberR.mk_ex m ⟨cellsAt_blk hz3 rfl, rfl, m, f, rfl, hn.trans hk fun k hlt e => by omega⟩
  refine loop_rule mix (fun m env u => ∃ (i : Nat) (jj : List Value), m = v.mem.length - i ∧ i ≤ v.mem.length ∧ env = bodegaref9_Find_env1 n ⟨b1, 0, none⟩ ⟨b2, 0, none⟩ i jj ∧ u = w2) v.mem.length
    ⟨0, _, by omega, by omega, rfl, rfl⟩ ?_
  rintro m env u ⟨i, jj, rfl, hi, rfl, rfl⟩
  rw [bodegaref9_Find_loop1_body]
  refine ⟨_, _, _, hz.cell (i := 1) rfl, bif_dec (fun hq => ?_) (fun hq => ?_)⟩
  · have hlt : i < v.mem.length := by omega
    have hg : v.mem[i]? = some v.mem[i] := List.getElem?_eq_getElem hlt
    refine ⟨_, _, _, hz.cell (i := 1) rfl, rd_rec (cells := ApiMemberR.cells) ApiMemberR.len (by omega) (h.rd.new hn) hg rfl hlen fun bb o hc hcc => ⟨_, hcc 0 _ rfl, bif_beq (fun he => ?_) (fun he => ?_)⟩⟩
    · refine ⟨_, _, _, hz.cell (i := 1) rfl, rd_rec (cells := ApiMemberR.cells) ApiMemberR.len (by omega) (h.rd.new hn) hg rfl hlen fun bb o hc hcc => ApiMemberR.mk_ex v.mem[i] ⟨hc, wrAt_blk hz2 (by simp [ApiMemberR.cells]) (ApiMemberR.single _), fun w3 hw3 => out v.mem[i] true w3 hw3⟩⟩
    · rw [w64 (by omega) (by omega)]
      exact ⟨v.mem.length - (i + 1), by omega, i + 1, _, rfl, by omega, rfl, rfl⟩
  · rw [bodegaref9_Find_aft1_vc]
    exact ⟨wrAt_blk hz2 (by simp [ApiMemberR.cells]) (ApiMemberR.single ⟨0, 0, false⟩), fun w3 hw3 => out ⟨0, 0, false⟩ false w3 hw3⟩

theorem pushU1_k {u : World} {a : Option Addr} {n cap : Nat} {L : List Int} (ho : Owns u 33 1 a n cap (us L)) {x : Int} (hb1 : n ≤ 1000000) {K : Option Addr → Nat → Nat → World → Prop} {w2 : World} {b1 : Nat} (hb : b1 = u.heap.size) (hw : w2 = u.alloc (.cells #[.int .u64 x] 33))
    (hk : ∀ ap cap' w3, Owns w3 33 1 ap (n + 1) cap' (us (L ++ [x])) → Keep (isB a) u w3 → (∀ k, isB ap k → isB a k ∨ u.heap.size ≤ k) → K ap (n + 1) cap' w3) :
    ∃ (ap : Option Addr) (ap_len ap_cap : Nat), ∃ w3, (Builtin.append_ #[26, 26] 26 #[(.slice a n cap), (.slice (some ⟨b1, 0, none⟩) 1 1)]).run Tryz.prog w2 = .ok (.slice ap ap_len ap_cap) w3 ∧ K ap ap_len ap_cap w3 := by
  obtain ⟨inf, hi, hz, hsz, hby⟩ := infoB (T := 33) (z := .int .u64 0) (n := 1) (m := 8) (by kernel_rfl)
  rw [← hsz] at ho
  refine push_k (vs := [.int .u64 x]) (K := fun _ => K) Tryz.underlying26 hi hz (by rw [hsz]; rfl) (by omega) ho (by rw [hsz]; rfl) (by intro v hv; simp at hv; subst hv; rfl) (by omega) (by omega) ?_ b1 w2 hb hw
  intro b ap cap' w3 h1 h2
  have e : us L ++ [Value.int .u64 x] = us (L ++ [x]) := by simp [us]
  rw [hsz, e] at h2
  exact hk ap cap' w3 h2

theorem pushI1_k {u : World} {a : Option Addr} {n cap : Nat} {L : List Int} (ho : Owns u 3 1 a n cap (is L)) {x : Int} (hb1 : n ≤ 1000000) {K : Option Addr → Nat → Nat → World → Prop} {w2 : World} {b1 : Nat} (hb : b1 = u.heap.size) (hw : w2 = u.alloc (.cells #[.int .i64 x] 3))
    (hk : ∀ ap cap' w3, Owns w3 3 1 ap (n + 1) cap' (is (L ++ [x])) → Keep (isB a) u w3 → (∀ k, isB ap k → isB a k ∨ u.heap.size ≤ k) → K ap (n + 1) cap' w3) :
    ∃ (ap : Option Addr) (ap_len ap_cap : Nat), ∃ w3, (Builtin.append_ #[22, 22] 22 #[(.slice a n cap), (.slice (some ⟨b1, 0, none⟩) 1 1)]).run Tryz.prog w2 = .ok (.slice ap ap_len ap_cap) w3 ∧ K ap ap_len ap_cap w3 := by
  obtain ⟨inf, hi, hz, hsz, hby⟩ := infoB (T := 3) (z := .int .i64 0) (n := 1) (m := 8) (by kernel_rfl)
  rw [← hsz] at ho
  refine push_k (vs := [.int .i64 x]) (K := fun _ => K) Tryz.underlying22 hi hz (by rw [hsz]; rfl) (by omega) ho (by rw [hsz]; rfl) (by intro v hv; simp at hv; subst hv; rfl) (by omega) (by omega) ?_ b1 w2 hb hw
  intro b ap cap' w3 h1 h2
  have e : is L ++ [Value.int .i64 x] = is (L ++ [x]) := by simp [is]
  rw [hsz, e] at h2
  exact hk ap cap' w3 h2

/-- A number of a slice of numbers that came in. -/
theorem rd_in {w u : World} {M : Nat → Prop} {a : Option Addr} {l : List Int} (h : Rd w a (is l)) (hk : Keep M w u) (hM : ∀ k, M k → w.heap.size ≤ k) {i : Nat} {x : Int} (hx : l[i]? = some x) {z : Int} (hz : z = i) {n : Nat} (hn : n = l.length) {K : Addr → Prop}
    (hK : ∀ b o, b < w.heap.size → u.cell? ⟨b, o, none⟩ = some (.int .i64 x) → K ⟨b, o, none⟩) : idxS a n z 1 K := by
  subst hz hn
  have hlt := lt_of_get hx
  have hxx : (is l)[i]? = some (.int .i64 x) := by simp [is, hx]
  rcases h with he | ⟨b, o, rfl, hc⟩
  · rw [he] at hxx; cases hxx
  · refine idxS_mk (by omega) (by omega) ?_
    have h1 := hc i _ hxx
    have hb : b < w.heap.size := cell_lt h1
    have := hK b (o + i) hb (cell_keep hk h1 fun hm => by have := hM b hm; omega)
    simpa using this

set_option maxRecDepth 100000 in
set_option maxHeartbeats 1000000 in
theorem DiscoverStatus_c (w : World) {number mask full : Int} {a3 a4 a6 a7 : Option Addr} {n3 c3 n4 c4 n6 c6 n7 c7 : Nat} {boots ks rb rk : List Int} {p5 : ApiViewR} {v5 : Vw} (h1 : I64 number) (h2 : I64 mask) (h3 : I64 full)
    (hr3 : Rd w a3 (is boots)) (hl3 : n3 = boots.length) (hi3 : ∀ x ∈ boots, I64 x) (hr4 : Rd w a4 (is ks)) (hl4 : n4 = ks.length) (hi4 : ∀ x ∈ ks, I64 x) (hv5 : VIn w p5 v5) (hr6 : Rd w a6 (is rb)) (hl6 : n6 = rb.length) (hr7 : Rd w a7 (us rk)) (hl7 : n7 = rk.length) :
    Does 3 [.int .i64 number, .int .i64 mask, .int .i64 full, .slice a3 n3 c3, .slice a4 n4 c4, p5.val, .slice a6 n6 c6, .slice a7 n7 c7] w fun x w' => x = .bool true ∧ New w w' := by
  subst hl3 hl4 hl6 hl7
  refine does Tryz.func3 ?_
  rw [bodegalaw11_DiscoverStatus_vc]
  rintro b1 w1 hb1 hw1
  obtain ⟨hz1, hn1⟩ := box_new hb1 hw1
  have hz1 : Blk w1 b1 p5.cells TVw := hz1
  clear hw1
  refine bif_dec (fun _ => ⟨rfl, hn1⟩) (fun hb8 => bif_dec (fun _ => ⟨rfl, hn1⟩) (fun hk8 => ⟨_, _, _, hz1.cell (i := 1) rfl, bif_dec (fun _ => ⟨rfl, hn1⟩) (fun hm8 => bif_dec (fun _ => ⟨rfl, hn1⟩) (fun hr8 => bif_dec (fun _ => ⟨rfl, hn1⟩) (fun hq8 => ?_)))⟩))
  refine at_call (HView_c w1 (n := 5) h1 h2 h3 (hr3.new hn1) rfl (by omega) hi3 (by omega) (by omega)) ?_
  rintro x w2 ⟨rv, v, rfl, hv, hn2, hg⟩
  refine ApiViewR.mk_ex rv ⟨rfl, ?_⟩
  refine box_k (vs := rv.cells) rfl (ApiViewR.single _) fun b2 w4 hb2 hz2 hn4 => ?_
  have hz14 := New.blk (hn2.new hn4) hz1
  have hn14 := hn1.new (hn2.new hn4)
  have hl1 := hz1.lt
  have hs2 := hn2.size
  have hs4 := hn4.size
  have hl2 := hz2.lt
  have hs1 := hn1.size
  have hv4 := hv.new hn4
  refine loop_rule mix (fun m env u => ∃ (i : Nat) (a8 a9 : Option Addr) (n8 c8 n9 c9 : Nat) (B K : List Int) (jj : List Value), m = ks.length - i ∧ i ≤ ks.length ∧ env = bodegalaw11_DiscoverStatus_env1 a4 ks.length c4 a6 rb.length c6 a7 rk.length c7 ⟨b1, 0, none⟩ ⟨b2, 0, none⟩ a8 n8 c8 a9 n9 c9 i jj ∧ New w4 u ∧
      Owns u 3 1 a8 n8 c8 (is B) ∧ Owns u 33 1 a9 n9 c9 (us K) ∧ n8 = B.length ∧ n9 = K.length ∧ B.length = i ∧ K.length = i ∧ (∀ k, isB a8 k → w4.heap.size ≤ k) ∧ (∀ k, isB a9 k → w4.heap.size ≤ k)) ks.length
    ⟨0, none, none, 0, 0, 0, 0, [], [], _, by omega, by omega, rfl, Keep.refl _ _, Owns.nil _ _ _, Owns.nil _ _ _, rfl, rfl, rfl, rfl, (fun k hk => by obtain ⟨o, ho⟩ := hk; cases ho), fun k hk => by obtain ⟨o, ho⟩ := hk; cases ho⟩ ?_
  rintro m env u ⟨i, a8, a9, n8, c8, n9, c9, B, K, jj, rfl, hi, rfl, hnu, hoB, hoK, rfl, rfl, hBi, hKi, hfB, hfK⟩
  rw [bodegalaw11_DiscoverStatus_loop1_body]
  refine bif_dec (fun hq => ?_) (fun hq => ?_)
  · have hlt : i < ks.length := by omega
    have hg4 : ks[i]? = some ks[i] := List.getElem?_eq_getElem hlt
    have hz2u := New.blk hnu hz2
    refine ApiViewR.mk_ex rv ⟨cellsAt_blk hz2u rfl, ?_⟩
    refine at_call (RFind_c (hv4.new hnu) i) ?_
    rintro x u1 ⟨mb, f, rfl, hm1⟩
    refine ApiMemberR.mk_ex mb ⟨_, rfl, ?_⟩
    refine box_k (vs := mb.cells) rfl (ApiMemberR.single _) fun b3 u3 hb3 hz3 hn3 => ?_
    rintro u4 hu4
    have hn4' : New u3 u4 := by rw [hu4]; exact new_drew _
    clear hu4
    have hz34 := New.blk hn4' hz3
    have hu04 := (hm1.new hn3).new hn4'
    have hoB4 := Owns.new hu04 hoB
    have hoK4 := Owns.new hu04 hoK
    have hw04 := hn14.new (hnu.new hu04)
    have hsu := hnu.size
    have hs04 := hu04.size
    have hb3l := hz34.lt
    have hb3g : u.heap.size ≤ b3 := by have := hm1.size; omega
    have hltB : ∀ k, isB a8 k → k < u.heap.size := fun k hk => Owns.lt hoB hk
    have hltK : ∀ k, isB a9 k → k < u.heap.size := fun k hk => Owns.lt hoK hk
    -- what is looked at stays, but for the first slice
    refine ⟨fun y => Keep (isB a8) u4 y, Keep.refl _ _, _, fun y hy => (hy.blk hz34 fun e => by have := hltB b3 e; omega).cell (i := 1) rfl, ?_⟩
    refine rd_in hr4 hw04 (fun k h => h.elim) hg4 rfl rfl fun b o hbo hc => ⟨_, fun y hy => cell_keep hy hc fun e => by have := hfB b e; omega, ?_⟩
    refine at_call (Pick_c u4 ks[i] 5 (hi4 _ (List.getElem_mem hlt)) (by omega)) ?_
    rintro x u5 ⟨rfl, rfl⟩
    refine ⟨_, rfl, Keep.refl _ _, ?_⟩
    rintro b6 u6 hb6 hu6
    refine ⟨by rw [hu6]; exact Keep.of_new (new_alloc _ _), ?_⟩
    refine pushI1_k (n := B.length) hoB4 (by omega) hb6 hu6 ?_
    intro ap cap u7 ho7 hk7 hap7
    refine ⟨hk7, ?_⟩
    rintro u8 hu8
    have hn8 : New u7 u8 := by rw [hu8]; exact new_drew _
    clear hu8
    have hk48 : Keep (isB a8) u5 u8 := hk7.new hn8
    have hn48 : New w4 u8 := (hnu.new hu04).trans hk48 fun k hlt hk => by have := hfB k hk; omega
    have hneK : ∀ k, isB a9 k → ¬ isB a8 k := by
      rintro k ⟨o, hk⟩ ⟨o', hk'⟩
      rcases hoB.2 with ⟨e, _⟩ | ⟨g, cur, e, hg1, _⟩
      · rw [e] at hk'; cases hk'
      · rcases hoK.2 with ⟨e2, _⟩ | ⟨g2, cur2, e2, hg2, _⟩
        · rw [e2] at hk; cases hk
        · rw [e] at hk'
          rw [e2] at hk
          simp at hk hk'
          have e3 : g = k := hk'.1
          have e4 : g2 = k := hk.1
          subst e3
          rw [e4] at hg2
          exact absurd (hg1.uniq hg2).2 (by decide)
    have hoK8 := Owns.keep hk48 hoK4 hneK
    have ho8 := Owns.new hn8 ho7
    have hfap : ∀ k, isB ap k → w4.heap.size ≤ k := fun k hk => by
      rcases hap7 k hk with e | e
      · exact hfB k e
      · omega
    have hneK8 : ∀ k, isB ap k → ¬ isB a9 k := by
      intro k hk hk9
      rcases hap7 k hk with e | e
      · exact hneK k hk9 e
      · have := hltK k hk9; omega
    refine ⟨fun y => Keep (isB a9) u8 y, Keep.refl _ _, _, fun y hy => (hy.blk (New.blk hn48 hz2) fun e => by have := hfK b2 e; omega).cell (i := 0) rfl, ?_⟩
    refine rd_in hr4 (hn14.new hn48) (fun k h => h.elim) hg4 rfl rfl fun b o hbo hc => ⟨_, fun y hy => cell_keep hy hc fun e => by have := hfK b e; omega, ?_⟩
    refine at_call (Pick_c u8 _ 3 (wrap_I64 _) (by omega)) ?_
    rintro x u9 ⟨rfl, rfl⟩
    refine ⟨_, rfl, Keep.refl _ _, ?_⟩
    rintro b10 u10 hb10 hu10
    refine ⟨by rw [hu10]; exact Keep.of_new (new_alloc _ _), ?_⟩
    refine pushU1_k (n := K.length) hoK8 (by omega) hb10 hu10 ?_
    intro ap1 cap1 u11 ho11 hk11 hap11
    have hs48 := hn48.size
    have hs58 := hk48.size
    refine ⟨hk11, ?_⟩
    rw [w64 (x := (i : Int) + 1) (by omega) (by omega)]
    refine ⟨ks.length - (i + 1), by omega, i + 1, ap, ap1, B.length + 1, cap, K.length + 1, cap1, _, _, _, rfl, by omega, rfl, hn48.trans hk11 fun k hlt hk => by have := hfK k hk; omega, Owns.keep hk11 ho8 hneK8, ho11, by simp, by simp, by simp [hBi], by simp [hKi], hfap, fun k hk => ?_⟩
    rcases hap11 k hk with e | e
    · exact hfK k e
    · omega
  · rw [bodegalaw11_DiscoverStatus_aft1_vc]
    have hz2u := New.blk hnu hz2
    have hz1u := New.blk hnu hz14
    have hrv := hv4.new hnu
    have hbB : B.length ≤ 1000000 := by omega
    have hbK : K.length ≤ 1000000 := by omega
    refine ApiViewR.mk_ex rv ⟨cellsAt_blk hz2u rfl, ?_⟩
    refine at_call (Status_c hrv hg.num hoB.rd rfl hoK.rd rfl hbB hbK) ?_
    rintro x u1 ⟨rfl, hn1'⟩
    refine ⟨_, _, rfl, ApiViewR.mk_ex rv ⟨cellsAt_blk (New.blk hn1' hz2u) rfl, ?_⟩⟩
    refine at_call (RStatus_c (hrv.new hn1') hg.num hg.boot (hoB.rd.new hn1') rfl (hoK.rd.new hn1') rfl hbB hbK) ?_
    rintro x u2 ⟨rfl, hn2'⟩
    refine ⟨_, _, rfl, bif_f (by simp) (bif_f (by simp) ?_)⟩
    refine at_call (Go.Mx.awake11_c u2) ?_
    rintro x u3 ⟨rfl, hn3'⟩
    refine ⟨_, rfl, bif_f rfl ?_⟩
    have hn13 := (hn1'.new hn2').new hn3'
    have hw3 := hn14.new (hnu.new hn13)
    have hv5' : ViewAt NoM w p5 v5 := hv5.at (by have := hv5.len; omega)
    have hz13 := New.blk hn13 hz1u
    refine ApiViewR.mk_ex p5 ⟨cellsAt_blk hz13 rfl, ?_⟩
    refine at_call (RValid_c (hv5'.new hw3) 5) ?_
    rintro x u4 ⟨rfl, hn4'⟩
    refine ⟨_, rfl, bif_bne (fun hne => ⟨rfl, hw3.new hn4'⟩) (fun h0 => ?_)⟩
    have hval : (0 ≤ v5.number ∧ v5.number < 16) ∧ ∀ m ∈ v5.mem, 1 ≤ m.Boot := by
      unfold Vw.valid at h0
      rw [if_neg (by omega)] at h0
      split at h0
      · omega
      split at h0
      · omega
      split at h0
      · omega
      split at h0
      · omega
      rename_i g1 g2 g3 g4
      refine ⟨by omega, fun m hm => ?_⟩
      have : v5.mem.all bootOk = true := by simpa using g4
      have := List.all_eq_true.1 this m hm
      unfold bootOk at this
      simp at this
      omega
    have hw4 := hw3.new hn4'
    refine ApiViewR.mk_ex p5 ⟨cellsAt_blk (New.blk hn4' hz13) rfl, ?_⟩
    refine at_call (Status_c (hv5'.new hw4) hval.1 (hr6.new hw4) rfl (hr7.new hw4) rfl (by omega) (by omega)) ?_
    rintro x u5 ⟨rfl, hn5'⟩
    refine ⟨_, _, rfl, ApiViewR.mk_ex p5 ⟨cellsAt_blk (New.blk (hn4'.new hn5') hz13) rfl, ?_⟩⟩
    have hw5 := hw4.new hn5'
    refine at_call (RStatus_c (hv5'.new hw5) hval.1 hval.2 (hr6.new hw5) rfl (hr7.new hw5) rfl (by omega) (by omega)) ?_
    rintro x u6 ⟨rfl, hn6'⟩
    exact ⟨_, _, rfl, bif_t (by simp) ⟨by simp, hw5.new hn6'⟩⟩
end Go.Proofs.YtihfgcmmljnhnaaGreat
