/- The reference's view. -/
import Derived.Test.YtppcleiekdbndaaGreatView
import Derived.Test.YtppcleiekdbndaaGreatCodeRView
set_option linter.unusedVariables false
namespace Go.Proofs.YtppcleiekdbndaaGreat
open Go.Eng

/-- Records are appended to a slice that a variable holds. -/
theorem pushM_k {u : World} {a : Option Addr} {n cap : Nat} {L : List ApiMemberR} (ho : Owns u TMb 3 a n cap (mrows L).flatten) (hn : n = L.length) {m : ApiMemberR} (hb1 : n ≤ 1000000) {K : Nat → Option Addr → Nat → Nat → World → Prop}
    (hk : ∀ b ap cap' w3, b = u.heap.size → Owns w3 TMb 3 ap (n + 1) cap' (mrows (L ++ [m])).flatten → Keep (isB a) u w3 → (∀ k, isB ap k → isB a k ∨ u.heap.size ≤ k) → K b ap (n + 1) cap' w3) :
    ∀ b1 w2, b1 = u.heap.size → w2 = u.alloc (.cells m.cells.toArray TMb) → ∃ (ap : Option Addr) (ap_len ap_cap : Nat), ∃ w3, (Builtin.append_ #[TSM, TSM] TSM #[(.slice a n cap), (.slice (some ⟨b1, 0, none⟩) 1 1)]).run Tryz.prog w2 = .ok (.slice ap ap_len ap_cap) w3 ∧ K b1 ap ap_len ap_cap w3 := by
  obtain ⟨inf, hi, hz, hsz, hby⟩ := infoB (T := TMb) (z := .agg #[.int .i64 0, .int .i64 0, .bool false]) (n := 3) (m := 24) (by kernel_rfl)
  rw [← hsz] at ho
  refine push_k Tryz.underlying29 hi hz (by rw [hsz]; rfl) (by omega) ho (by rw [hsz]; rfl) (ApiMemberR.single m) (by omega) (by omega) ?_
  intro b ap cap' w3 h1 h2
  rw [hsz, ← mrows_snoc] at h2
  exact hk b ap cap' w3 h1 h2

theorem RFull_c {M : Nat → Prop} {w : World} {r : ApiViewR} {v : Vw} (h : ViewAt M w r v) : Does 122 [r.val] w fun x w' => ∃ a c, x = .slice a (v.mem.filter ApiMemberR.Full).length c ∧ New w w' := by
  refine does Tryz.func122 ?_
  rw [bodegaref9_Full_vc]
  rintro b1 w1 hb1 hw1
  obtain ⟨hz, hn⟩ := box_new hb1 hw1
  have hz : Blk w1 b1 r.cells TVw := hz
  clear hw1
  have hsm := h.small
  have hlen := h.len
  refine loop_rule mix (fun m env u => ∃ (i : Nat) (a : Option Addr) (n c : Nat) (jj : List Value), m = v.mem.length - i ∧ i ≤ v.mem.length ∧ env = bodegaref9_Full_env1 ⟨b1, 0, none⟩ a n c i jj ∧ n = ((v.mem.take i).filter ApiMemberR.Full).length ∧ New w1 u ∧ Owns u TMb 3 a n c (mrows ((v.mem.take i).filter ApiMemberR.Full)).flatten ∧ (∀ k, isB a k → w1.heap.size ≤ k)) v.mem.length
    ⟨0, none, 0, 0, _, by omega, by omega, rfl, rfl, Keep.refl _ _, Owns.nil _ _ _, fun k hk => by obtain ⟨o, ho⟩ := hk; cases ho⟩ ?_
  rintro m env u ⟨i, a, n, c, jj, rfl, hi, rfl, hn', hnu, hown, hfr⟩
  have hzu := New.blk hnu hz
  rw [bodegaref9_Full_loop1_body]
  refine ⟨_, _, _, hzu.cell (i := 1) rfl, bif_dec (fun hq => ?_) (fun hq => ?_)⟩
  · have hlt : i < v.mem.length := by omega
    have hg : v.mem[i]? = some v.mem[i] := List.getElem?_eq_getElem hlt
    have hrd := (h.rd.new hn).new hnu
    have hlf := List.length_filter_le ApiMemberR.Full (v.mem.take i)
    have hlt2 : (v.mem.take i).length ≤ i := by rw [List.length_take]; omega
    refine ⟨_, _, _, hzu.cell (i := 1) rfl, rd_rec (cells := ApiMemberR.cells) ApiMemberR.len (by omega) hrd hg rfl hlen fun b o hc hcc => ⟨_, hcc 2 _ rfl, bif_b (fun hf => ?_) (fun hf => ?_)⟩⟩
    · have hfl : (v.mem.take (i + 1)).filter ApiMemberR.Full = (v.mem.take i).filter ApiMemberR.Full ++ [v.mem[i]] := by
        rw [List.take_add_one, hg, List.filter_append]
        congr 1
        simp [hf]
      refine ⟨_, _, _, hzu.cell (i := 1) rfl, rd_rec (cells := ApiMemberR.cells) ApiMemberR.len (by omega) hrd hg rfl hlen fun b o hc hcc => ApiMemberR.mk_ex v.mem[i] ⟨hc, ?_⟩⟩
      refine pushM_k hown hn' (by omega) ?_
      intro b3 ap cap u3 hb3 ho3 hk3 hap
      rw [w64 (by omega) (by omega)]
      refine ⟨v.mem.length - (i + 1), by omega, i + 1, ap, n + 1, cap, _, rfl, by omega, rfl, by rw [hfl, List.length_append, hn']; rfl, new_fresh hnu hk3 hfr, by rw [hfl]; exact ho3, fun k hk => ?_⟩
      rcases hap k hk with h1 | h1
      · exact hfr k h1
      · have := hnu.size; omega
    · have hfl : (v.mem.take (i + 1)).filter ApiMemberR.Full = (v.mem.take i).filter ApiMemberR.Full := by
        rw [List.take_add_one, hg, List.filter_append]
        simp [hf]
      rw [w64 (by omega) (by omega)]
      exact ⟨v.mem.length - (i + 1), by omega, i + 1, a, n, c, _, rfl, by omega, rfl, by rw [hfl, hn'], hnu, by rw [hfl]; exact hown, hfr⟩
  · rw [bodegaref9_Full_aft1_vc, hn', List.take_of_length_le (by omega)]
    exact ⟨a, c, rfl, hn.new hnu⟩

theorem full_any (l : List ApiMemberR) : (l.filter ApiMemberR.Full).length = 0 ↔ l.any ApiMemberR.Full = false := by
  rw [List.length_eq_zero_iff, List.filter_eq_nil_iff, List.any_eq_false]

set_option maxHeartbeats 1000000 in
theorem RValid_c {M : Nat → Prop} {w : World} {r : ApiViewR} {v : Vw} (h : ViewAt M w r v) (n : Int) : Does 70 [r.val, .int .i64 n] w fun x w' => x = .int .i64 (v.valid n) ∧ New w w' := by
  refine does Tryz.func70 ?_
  rw [bodegaref9_ValidView_vc]
  rintro b1 w1 hb1 hw1
  obtain ⟨hz, hn⟩ := box_new hb1 hw1
  have hz : Blk w1 b1 r.cells TVw := hz
  clear hw1
  have hsm := h.small
  have hlen := h.len
  have hnum := h.num
  unfold Vw.valid
  refine bif_dec (fun hp => ?_) (fun hp1 => bif_dec (fun hp => ?_) (fun hp2 => ?_))
  · rw [if_pos (by omega)]; exact ⟨rfl, hn⟩
  · rw [if_pos (by omega)]; exact ⟨rfl, hn⟩
  rw [if_neg (by omega)]
  refine ⟨_, hz.cell rfl, bif_dec (fun hp => ?_) (fun hp => ⟨_, hz.cell rfl, bif_dec (fun hp2 => ?_) (fun hp2 => ?_)⟩)⟩
  · rw [if_pos (by omega)]; exact ⟨rfl, hn⟩
  · rw [if_pos (by omega)]; exact ⟨rfl, hn⟩
  rw [if_neg (by omega)]
  -- the nodes
  refine loop_rule mix (fun m env u => ∃ (i : Nat) (jj : List Value), m = v.mem.length - i ∧ i ≤ v.mem.length ∧ env = bodegaref9_ValidView_env1 n ⟨b1, 0, none⟩ i jj ∧ u = w1 ∧ ∀ k, k < i → memOk n v.mem k = true) v.mem.length
    ⟨0, _, by omega, by omega, rfl, rfl, fun k hk => by omega⟩ ?_
  rintro m env u ⟨i, jj, rfl, hi, rfl, rfl, hok⟩
  rw [bodegaref9_ValidView_loop1_body]
  have hrd := h.rd.new hn
  refine ⟨_, _, _, hz.cell (i := 1) rfl, bif_dec (fun hq => ?_) (fun hq => ?_)⟩
  · have hlt : i < v.mem.length := by omega
    have hg : v.mem[i]? = some v.mem[i] := List.getElem?_eq_getElem hlt
    have hgd := getD_of (d := noM) hg
    have hno : memOk n v.mem i = false → (if v.mem.length = 0 then 1 else if (List.range v.mem.length).all (memOk n v.mem) = false then 1 else if v.mem.all bootOk = false then 2 else if v.mem.any ApiMemberR.Full = false then 13 else (0 : Int)) = 1 := fun e => by
      rw [if_neg (by omega), if_pos (all_false_of hlt e)]
    refine ⟨_, _, _, hz.cell (i := 1) rfl, rd_rec (cells := ApiMemberR.cells) ApiMemberR.len (by omega) hrd hg rfl hlen fun b o hc hcc => ⟨_, hcc 0 _ rfl, bif_dec (fun hp3 => ?_) (fun hp3 => bif_dec (fun hp4 => ?_) (fun hp4 => bif_dec (fun hp5 => ?_) (fun hp5 => ?_)))⟩⟩
    · exact ⟨by rw [hno (by unfold memOk; rw [hgd]; simp; omega)], hn⟩
    · exact ⟨by rw [hno (by unfold memOk; rw [hgd]; simp; omega)], hn⟩
    · have hg1 : v.mem[i - 1]? = some v.mem[i - 1] := List.getElem?_eq_getElem (by omega)
      have hgd1 := getD_of (d := noM) hg1
      refine ⟨_, _, _, hz.cell (i := 1) rfl, ?_⟩
      refine rd_rec (cells := ApiMemberR.cells) ApiMemberR.len (by omega) hrd hg1 (by rw [w64 (by omega) (by omega)]; omega) hlen fun b' o' _ hc' => ⟨_, hc' 0 _ rfl, bif_dec (fun hp6 => ?_) (fun hp6 => ?_)⟩
      · exact ⟨by rw [hno (by unfold memOk; rw [hgd, hgd1]; simp; omega)], hn⟩
      · rw [w64 (by omega) (by omega)]
        refine ⟨v.mem.length - (i + 1), by omega, i + 1, _, rfl, by omega, rfl, rfl, fun k hk => ?_⟩
        rcases Nat.lt_succ_iff_lt_or_eq.1 hk with hk | rfl
        · exact hok k hk
        · unfold memOk; rw [hgd, hgd1]; simp; omega
    · rw [w64 (by omega) (by omega)]
      refine ⟨v.mem.length - (i + 1), by omega, i + 1, _, rfl, by omega, rfl, rfl, fun k hk => ?_⟩
      rcases Nat.lt_succ_iff_lt_or_eq.1 hk with hk | rfl
      · exact hok k hk
      · unfold memOk; rw [hgd]; simp; omega
  have hall : (List.range v.mem.length).all (memOk n v.mem) = true := by
    rw [List.all_eq_true]
    intro k hk
    exact hok k (by have := List.mem_range.1 hk; omega)
  rw [bodegaref9_ValidView_aft1_vc]
  refine ⟨_, _, _, hz.cell (i := 1) rfl, bif_beq (fun h0 => ?_) (fun h0 => ?_)⟩
  · rw [if_pos (by omega)]; exact ⟨rfl, hn⟩
  rw [if_neg (by omega), if_neg (by rw [hall]; simp)]
  -- the boot numbers
  refine loop_rule mix (fun m env z => ∃ (i : Nat) (jj : List Value), m = v.mem.length - i ∧ i ≤ v.mem.length ∧ env = bodegaref9_ValidView_env2 ⟨b1, 0, none⟩ i jj ∧ z = u ∧ (v.mem.take i).all bootOk = true) v.mem.length
    ⟨0, _, by omega, by omega, rfl, rfl, rfl⟩ ?_
  clear hok hi hq
  rintro m env z ⟨i, jj, rfl, hi, rfl, rfl, hok⟩
  rw [bodegaref9_ValidView_loop2_body]
  refine ⟨_, _, _, hz.cell (i := 1) rfl, bif_dec (fun hq => ?_) (fun hq => ?_)⟩
  · have hlt : i < v.mem.length := by omega
    have hg : v.mem[i]? = some v.mem[i] := List.getElem?_eq_getElem hlt
    have hno : bootOk v.mem[i] = false → v.mem.all bootOk = false := fun e => by
      rw [List.all_eq_false]
      exact ⟨v.mem[i], List.getElem_mem hlt, by simp [e]⟩
    refine ⟨_, _, _, hz.cell (i := 1) rfl, rd_rec (cells := ApiMemberR.cells) ApiMemberR.len (by omega) hrd hg rfl hlen fun b o hc hcc => ⟨_, hcc 1 _ rfl, bif_dec (fun hp3 => ?_) (fun hp3 => bif_dec (fun hp4 => ?_) (fun hp4 => ?_))⟩⟩
    · rw [if_pos (hno (by unfold bootOk; simp; omega))]; exact ⟨rfl, hn⟩
    · rw [if_pos (hno (by unfold bootOk; simp; omega))]; exact ⟨rfl, hn⟩
    · rw [w64 (by omega) (by omega)]
      refine ⟨v.mem.length - (i + 1), by omega, i + 1, _, rfl, by omega, rfl, rfl, ?_⟩
      rw [List.take_add_one, hg, List.all_append, hok]
      simp [bootOk]; omega
  have htake : v.mem.take i = v.mem := List.take_of_length_le (by omega)
  rw [htake] at hok
  rw [if_neg (by rw [hok]; simp)]
  rw [bodegaref9_ValidView_aft2_vc]
  refine ApiViewR.mk_ex r ⟨cellsAt_blk hz rfl, ?_⟩
  refine at_call (RFull_c (h.new hn)) ?_
  rintro x u3 ⟨a, c, rfl, hn3⟩
  refine ⟨_, _, _, rfl, bif_beq (fun hf => ?_) (fun hf => ?_)⟩
  · rw [if_pos ((full_any _).1 (by omega))]; exact ⟨rfl, hn.new hn3⟩
  · rw [if_neg (fun e => by have := (full_any v.mem).2 e; omega)]; exact ⟨rfl, hn.new hn3⟩
end Go.Proofs.YtppcleiekdbndaaGreat
