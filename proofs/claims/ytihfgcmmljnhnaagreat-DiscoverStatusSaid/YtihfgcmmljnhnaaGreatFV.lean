/- Valid jobs of package fetch. -/
import Derived.Test.YtihfgcmmljnhnaaGreatHand
import Derived.Test.YtihfgcmmljnhnaaGreatCodeFV
import Derived.Test.YtihfgcmmljnhnaaGreatCodeLay
set_option linter.unusedVariables false
namespace Go.Proofs.YtihfgcmmljnhnaaGreat
open Go.Eng

/-- A number of a slice of numbers. -/
theorem rd_i {u : World} {a : Option Addr} {l : List Int} (h : Rd u a (is l)) {i : Nat} {x : Int} (hx : l[i]? = some x) {z : Int} (hz : z = i) {n : Nat} (hn : n = l.length) {K : Addr → Prop}
    (hk : ∀ b o, (∀ y, New u y → y.cell? ⟨b, o, none⟩ = some (.int .i64 x)) → K ⟨b, o, none⟩) : idxS a n z 1 K := by
  subst hz hn
  have hlt := lt_of_get hx
  have hxx : (is l)[i]? = some (.int .i64 x) := by simp [is, hx]
  rcases h with he | ⟨b, o, rfl, hc⟩
  · rw [he] at hxx; cases hxx
  · refine idxS_mk (by omega) (by omega) ?_
    have := hk b (o + i) fun y hy => (Rd.new hy (.inr ⟨b, o, rfl, hc⟩)).cell hxx
    simpa using this

def inHeap (line lines : Int) : Bool := decide (98 ≤ lines ∧ lines ≤ 256 ∧ 96 ≤ line ∧ line < lines)

theorem InHeap_c (w : World) (line lines : Int) : Does 55 [.int .i64 line, .int .i64 lines] w fun v w' => v = .bool (inHeap line lines) ∧ w' = w := by
  refine does Tryz.func55 ?_
  rw [layout_InHeap_vc]
  have h1 : Does 99 [.int .i64 lines] w fun v w' => v = .bool (decide (98 ≤ lines ∧ lines ≤ 256)) ∧ w' = w := by
    refine does Tryz.func99 ?_
    rw [layout_isLines_vc]
    refine bif_dec (fun h => ⟨?_, rfl⟩) (fun h => ⟨?_, rfl⟩)
    · have h : 98 ≤ lines := h; congr 1; simp [h]
    · have h : ¬ 98 ≤ lines := h; congr 1; simp [h]
  refine at_call h1 ?_
  rintro v w1 ⟨rfl, rfl⟩
  unfold inHeap
  refine ⟨_, rfl, bif_dec (fun h => bif_dec (fun h2 => ⟨?_, rfl⟩) (fun h2 => ⟨?_, rfl⟩)) (fun h => ⟨?_, rfl⟩)⟩
  · have h2 : 96 ≤ line := h2; congr 1; simp [h.1, h.2, h2]
  · have h2 : ¬ 96 ≤ line := h2; congr 1; simp [h2]
  · congr 1; simp; intro a b; exact absurd ⟨a, b⟩ h

theorem RInHeap_c (w : World) (line lines : Int) : Does 60 [.int .i64 line, .int .i64 lines] w fun v w' => v = .bool (inHeap line lines) ∧ w' = w := by
  refine does Tryz.func60 ?_
  rw [bodegaref1_InHeap_vc]
  unfold inHeap
  refine bif_dec (fun h => bif_dec (fun h1 => bif_dec (fun h2 => ⟨?_, rfl⟩) (fun h2 => ⟨?_, rfl⟩)) (fun h1 => ⟨?_, rfl⟩)) (fun h => ⟨?_, rfl⟩)
  · have h : 98 ≤ lines := h; have h2 : 96 ≤ line := h2; congr 1; simp [h, h1, h2]
  · have h2 : ¬ 96 ≤ line := h2; congr 1; simp [h2]
  · congr 1; simp [h1]
  · have h : ¬ 98 ≤ lines := h; congr 1; simp [h]

structure FJob where
  total : Int
  v : Vw
  lines : List Int

structure FJobAt (w : World) (r : FetchJobR) (j : FJob) : Prop where
  total : r.Total = j.total
  view : ∃ M, ViewAt M w r.View j.v
  rd : Rd w r.Lines (is j.lines)
  len : r.Lines_l = j.lines.length
  few : j.lines.length ≤ 100000

theorem FJobAt.new {w w' : World} {r : FetchJobR} {j : FJob} (h : FJobAt w r j) (hn : New w w') : FJobAt w' r j := ⟨h.total, h.view.imp fun _ h => h.new hn, h.rd.new hn, h.len, h.few⟩

def asc (l : List Int) (i : Nat) : Bool := decide (i = 0) || decide (l.getD (i - 1) 0 < l.getD i 0)
def FJob.valid (j : FJob) : Int :=
  if j.v.valid 5 ≠ 0 then j.v.valid 5 else if j.total < 98 ∨ 256 < j.total ∨ 1024 < j.lines.length then 18
  else if j.lines.all (inHeap · j.total) = false then 2 else if (List.range j.lines.length).all (asc j.lines) = false then 1 else 0

theorem FValid_c {w : World} {r : FetchJobR} {j : FJob} (h : FJobAt w r j) : Does 33 [r.val] w fun x w' => x = .int .i64 j.valid ∧ New w w' := by
  refine does Tryz.func33 ?_
  rw [fetch_Valid_vc]
  rintro b1 w1 hb1 hw1
  obtain ⟨hz, hn⟩ := box_new hb1 hw1
  have hz : Blk w1 b1 r.cells 71 := hz
  clear hw1
  have hlen := h.len
  have htot := h.total
  have hfew := h.few
  obtain ⟨MM, hview⟩ := h.view
  refine ApiViewR.mk_ex r.View ⟨cellsAt_blk hz rfl, ?_⟩
  refine at_call (VValid_c (hview.new hn) 5) ?_
  rintro x w2 ⟨rfl, hn2⟩
  have hz2 := New.blk hn2 hz
  have hn12 := hn.new hn2
  unfold FJob.valid
  refine ⟨_, rfl, bif_bne (fun hv => ?_) (fun hv => ?_)⟩
  · rw [if_pos hv]; exact ⟨rfl, hn12⟩
  rw [if_neg (by omega)]
  refine ⟨_, hz2.cell (i := 0) rfl, bif_dec (fun hp => ?_) (fun hp => ⟨_, hz2.cell (i := 0) rfl, bif_dec (fun hp2 => ?_) (fun hp2 => ⟨_, _, _, hz2.cell (i := 3) rfl, bif_dec (fun hp3 => ?_) (fun hp3 => ⟨_, _, _, hz2.cell (i := 3) rfl, ?_⟩)⟩)⟩)⟩
  · rw [if_pos (by omega)]; exact ⟨rfl, hn12⟩
  · rw [if_pos (by omega)]; exact ⟨rfl, hn12⟩
  · rw [if_pos (by omega)]; exact ⟨rfl, hn12⟩
  rw [if_neg (by omega)]
  refine loop_rule mix (fun m env u => ∃ (i : Nat) (jj : List Value), m = j.lines.length - i ∧ i ≤ j.lines.length ∧ env = fetch_Valid_env1 ⟨b1, 0, none⟩ r.Lines r.Lines_l r.Lines_c r.Lines_l i jj ∧ u = w2 ∧ (j.lines.take i).all (inHeap · j.total) = true) j.lines.length
    ⟨0, _, by omega, by omega, rfl, rfl, rfl⟩ ?_
  rintro m env u ⟨i, jj, rfl, hi, rfl, rfl, hok⟩
  have hrd := h.rd.new hn12
  rw [fetch_Valid_loop1_body]
  refine bif_dec (fun hq => ?_) (fun hq => ?_)
  · have hlt : i < j.lines.length := by omega
    have hg : j.lines[i]? = some j.lines[i] := List.getElem?_eq_getElem hlt
    refine rd_i hrd hg rfl hlen fun b o hc => ⟨_, hc _ (Keep.refl _ _), _, hz2.cell (i := 0) rfl, ?_⟩
    refine at_call (InHeap_c _ _ _) ?_
    rintro x w3 ⟨rfl, rfl⟩
    refine ⟨_, rfl, bif_not (fun hf => ?_) (fun ht => ?_)⟩
    · rw [if_pos (by
        rw [List.all_eq_false]
        exact ⟨_, List.getElem_mem hlt, by rw [← htot, hf]; simp⟩)]
      exact ⟨rfl, hn12⟩
    · rw [w64 (by omega) (by omega)]
      refine ⟨j.lines.length - (i + 1), by omega, i + 1, _, rfl, by omega, rfl, rfl, ?_⟩
      rw [List.take_add_one, hg, List.all_append, hok]
      simp [← htot, ht]
  have ht : j.lines.take i = j.lines := List.take_of_length_le (by omega)
  rw [ht] at hok
  rw [if_neg (by rw [hok]; simp), fetch_Valid_aft1_vc]
  refine ⟨_, _, _, hz2.cell (i := 3) rfl, ?_⟩
  refine loop_rule mix (fun m env z => ∃ (i : Nat) (jj : List Value), m = j.lines.length - i ∧ i ≤ j.lines.length ∧ env = fetch_Valid_env2 ⟨b1, 0, none⟩ r.Lines r.Lines_l r.Lines_c r.Lines_l i jj ∧ z = u ∧ ∀ k, k < i → asc j.lines k = true) j.lines.length
    ⟨0, _, by omega, by omega, rfl, rfl, fun k hk => by omega⟩ ?_
  clear hok hi hq ht
  rintro m env z ⟨i, jj, rfl, hi, rfl, rfl, hok⟩
  rw [fetch_Valid_loop2_body]
  refine bif_dec (fun hq => ?_) (fun hq => ?_)
  · have hlt : i < j.lines.length := by omega
    have hg : j.lines[i]? = some j.lines[i] := List.getElem?_eq_getElem hlt
    have hgd := getD_of (d := 0) hg
    have step : asc j.lines i = true → ∀ k, k < i + 1 → asc j.lines k = true := fun ha k hk => by
      rcases Nat.lt_succ_iff_lt_or_eq.1 hk with hk | rfl
      · exact hok k hk
      · exact ha
    refine rd_i hrd hg rfl hlen fun b o hc => ⟨_, hc _ (Keep.refl _ _), bif_dec (fun h0 => ⟨_, _, _, hz2.cell (i := 3) rfl, ?_⟩) (fun h0 => ?_)⟩
    · have hg1 : j.lines[i - 1]? = some j.lines[i - 1] := List.getElem?_eq_getElem (by omega)
      have hgd1 := getD_of (d := 0) hg1
      refine rd_i hrd hg1 (by rw [w64 (by omega) (by omega)]; omega) hlen fun b' o' hc' => ⟨_, hc' _ (Keep.refl _ _), bif_dec (fun hp6 => ?_) (fun hp6 => ?_)⟩
      · rw [if_pos (all_false_of hlt (by unfold asc; rw [hgd, hgd1]; simp; omega))]
        exact ⟨rfl, hn12⟩
      · rw [w64 (by omega) (by omega)]
        exact ⟨j.lines.length - (i + 1), by omega, i + 1, _, rfl, by omega, rfl, rfl, step (by unfold asc; rw [hgd, hgd1]; simp; omega)⟩
    · rw [w64 (by omega) (by omega)]
      exact ⟨j.lines.length - (i + 1), by omega, i + 1, _, rfl, by omega, rfl, rfl, step (by unfold asc; simp; omega)⟩
  · rw [fetch_Valid_aft2_vc, if_neg (by
      rw [Bool.not_eq_false, List.all_eq_true]
      intro k hk
      exact hok k (by have := List.mem_range.1 hk; omega))]
    exact ⟨rfl, hn12⟩

theorem RValidFetch_c {w : World} {r : FetchJobR} {j : FJob} (h : FJobAt w r j) : Does 34 [.int .i64 r.Total, r.View.val, .slice r.Lines r.Lines_l r.Lines_c] w fun x w' => x = .int .i64 j.valid ∧ New w w' := by
  refine does Tryz.func34 ?_
  rw [bodegaref9_ValidFetch_vc]
  rintro b1 w1 hb1 hw1
  obtain ⟨hz, hn⟩ := box_new hb1 hw1
  have hz : Blk w1 b1 r.View.cells TVw := hz
  clear hw1
  have hlen := h.len
  have htot := h.total
  have hfew := h.few
  obtain ⟨MM, hview⟩ := h.view
  refine ApiViewR.mk_ex r.View ⟨cellsAt_blk hz rfl, ?_⟩
  refine at_call (RValid_c (hview.new hn) 5) ?_
  rintro x w2 ⟨rfl, hn2⟩
  have hn12 := hn.new hn2
  unfold FJob.valid
  refine ⟨_, rfl, bif_bne (fun hv => ?_) (fun hv => ?_)⟩
  · rw [if_pos hv]; exact ⟨rfl, hn12⟩
  rw [if_neg (by omega)]
  refine bif_dec (fun hp => ?_) (fun hp => bif_dec (fun hp2 => ?_) (fun hp2 => bif_dec (fun hp3 => ?_) (fun hp3 => ?_)))
  · rw [if_pos (by omega)]; exact ⟨rfl, hn12⟩
  · rw [if_pos (by omega)]; exact ⟨rfl, hn12⟩
  · rw [if_pos (by omega)]; exact ⟨rfl, hn12⟩
  rw [if_neg (by omega)]
  refine loop_rule mix (fun m env u => ∃ (i : Nat) (jj : List Value), m = j.lines.length - i ∧ i ≤ j.lines.length ∧ env = bodegaref9_ValidFetch_env1 r.Total r.Lines r.Lines_l r.Lines_c i jj ∧ u = w2 ∧ (j.lines.take i).all (inHeap · j.total) = true) j.lines.length
    ⟨0, _, by omega, by omega, rfl, rfl, rfl⟩ ?_
  rintro m env u ⟨i, jj, rfl, hi, rfl, rfl, hok⟩
  have hrd := h.rd.new hn12
  rw [bodegaref9_ValidFetch_loop1_body]
  refine bif_dec (fun hq => ?_) (fun hq => ?_)
  · have hlt : i < j.lines.length := by omega
    have hg : j.lines[i]? = some j.lines[i] := List.getElem?_eq_getElem hlt
    refine rd_i hrd hg rfl hlen fun b o hc => ⟨_, hc _ (Keep.refl _ _), ?_⟩
    refine at_call (RInHeap_c _ _ _) ?_
    rintro x w3 ⟨rfl, rfl⟩
    refine ⟨_, rfl, bif_not (fun hf => ?_) (fun ht => ?_)⟩
    · rw [if_pos (by
        rw [List.all_eq_false]
        exact ⟨_, List.getElem_mem hlt, by rw [← htot, hf]; simp⟩)]
      exact ⟨rfl, hn12⟩
    · rw [w64 (by omega) (by omega)]
      refine ⟨j.lines.length - (i + 1), by omega, i + 1, _, rfl, by omega, rfl, rfl, ?_⟩
      rw [List.take_add_one, hg, List.all_append, hok]
      simp [← htot, ht]
  have ht : j.lines.take i = j.lines := List.take_of_length_le (by omega)
  rw [ht] at hok
  rw [if_neg (by rw [hok]; simp), bodegaref9_ValidFetch_aft1_vc]
  refine loop_rule mix (fun m env z => ∃ (i : Nat) (jj : List Value), m = j.lines.length + 1 - i ∧ 1 ≤ i ∧ env = bodegaref9_ValidFetch_env2 r.Lines r.Lines_l r.Lines_c i jj ∧ New u z ∧ i ≤ j.lines.length + 1 ∧ ∀ k, k < i → asc j.lines k = true) j.lines.length
    ⟨1, _, by omega, by omega, rfl, Keep.refl _ _, by omega, fun k hk => by unfold asc; simp; omega⟩ ?_
  clear hok hi hq ht
  rintro m env z ⟨i, jj, rfl, hi1, rfl, hnz, hi, hok⟩
  rw [bodegaref9_ValidFetch_loop2_body]
  refine bif_dec (fun hq => ?_) (fun hq => ?_)
  · have hlt : i < j.lines.length := by omega
    have hg : j.lines[i]? = some j.lines[i] := List.getElem?_eq_getElem hlt
    have hgd := getD_of (d := 0) hg
    have hg1 : j.lines[i - 1]? = some j.lines[i - 1] := List.getElem?_eq_getElem (by omega)
    have hgd1 := getD_of (d := 0) hg1
    rintro z1 hz1
    have hn3 : New z z1 := by rw [hz1]; exact new_drew _
    clear hz1
    have hrz := (hrd.new hnz).new hn3
    refine ⟨fun y => New z1 y, Keep.refl _ _, ?_⟩
    refine rd_i hrz hg1 (by rw [w64 (by omega) (by omega)]; omega) hlen fun b o hc => ⟨_, fun y hy => hc y hy, ?_⟩
    refine rd_i hrz hg rfl hlen fun b' o' hc' => ⟨_, fun y hy => hc' y hy, bif_dec (fun hp6 => ?_) (fun hp6 => ?_)⟩
    · rw [if_pos (all_false_of hlt (by unfold asc; rw [hgd, hgd1]; simp; omega))]
      exact ⟨rfl, hn12.new (hnz.new hn3)⟩
    · rw [w64 (by omega) (by omega)]
      refine ⟨j.lines.length + 1 - (i + 1), by omega, i + 1, _, rfl, by omega, rfl, hnz.new hn3, by omega, fun k hk => ?_⟩
      rcases Nat.lt_succ_iff_lt_or_eq.1 hk with hk | rfl
      · exact hok k hk
      · unfold asc; rw [hgd, hgd1]; simp; omega
  · rw [bodegaref9_ValidFetch_aft2_vc, if_neg (by
      rw [Bool.not_eq_false, List.all_eq_true]
      intro k hk
      exact hok k (by have := List.mem_range.1 hk; omega))]
    exact ⟨rfl, hn12.new hnz⟩
end Go.Proofs.YtihfgcmmljnhnaaGreat
