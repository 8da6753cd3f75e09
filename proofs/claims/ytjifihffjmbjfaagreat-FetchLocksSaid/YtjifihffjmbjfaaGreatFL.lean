/- Whose locks are on pages; what has been seen. -/
import Derived.Test.YtjifihffjmbjfaaGreatSo
import Derived.Test.YtjifihffjmbjfaaGreatCodeFL
set_option linter.unusedVariables false
namespace Go.Proofs.YtjifihffjmbjfaaGreat
open Go.Eng Go.PureLocks

def seenOf (L : List ApiPageR) : List ApiSeenR := L.map fun p => ⟨p.Line, p.Head⟩
def heads (L : List ApiPageR) : List Int := L.map (·.Head)

theorem ow_eq {h : Int} (hu : U64 h) : band .u64 h 255 = h % 256 := band_mask hu.1 hu.2 8 (by omega)
theorem ow_in (h : Int) : 0 ≤ h % 256 ∧ h % 256 < 256 := ⟨Int.emod_nonneg _ (by omega), Int.emod_lt_of_pos _ (by omega)⟩

theorem nope (h : Nat) : ∀ k, isB (none : Option Addr) k → h ≤ k := fun k hk => absurd hk (not_isB_none k)

theorem Seen_c {w : World} {a : Option Addr} {n c : Nat} {L : List ApiPageR} (h : PgsAt w a n L) : Does 33 [.slice a n c] w fun x w' => ∃ (a' : Option Addr) (c' : Nat) (S : List ApiSeenR), x = .tuple #[.slice a' S.length c', .int .i64 (if L.all (fun p => unl p.Head) = true then 0 else 3)] ∧ Rd w' a' (snrows S).flatten ∧ S = (if L.all (fun p => unl p.Head) = true then seenOf L else []) ∧ New w w' := by
  have hl := h.len
  subst hl
  have hfew := h.few
  refine does Tryz.func33 ?_
  rw [fetch_Seen_vc]
  refine loop_rule mix (fun m env u => ∃ (i : Nat) (a' : Option Addr) (c' : Nat) (jj : List Value), m = L.length - i ∧ i ≤ L.length ∧ env = fetch_Seen_env1 a' i c' a L.length c L.length i jj ∧ New w u ∧ Owns u TSn 2 a' i c' (snrows (seenOf (L.take i))).flatten ∧ (∀ k, isB a' k → w.heap.size ≤ k) ∧ (L.take i).all (fun p => unl p.Head) = true) L.length
    ⟨0, none, 0, _, by omega, by omega, rfl, Keep.refl _ _, Owns.nil _ _ _, nope _, rfl⟩ ?_
  rintro m env u ⟨i, a', c', jj, rfl, hi, rfl, hn, hown, hfr, hok⟩
  rw [fetch_Seen_loop1_body]
  refine bif_dec (fun hp => ?_) (fun hp => ?_)
  · have hlt : i < L.length := by omega
    have hg : L[i]? = some L[i] := List.getElem?_eq_getElem hlt
    refine rd_rec (cells := ApiPageR.cells) ApiPageR.len (by omega) (h.rd.new hn) hg rfl rfl fun b o hcc _ => ApiPageR.mk_ex L[i] ⟨hcc, ?_⟩
    refine box_k (vs := L[i].cells) rfl (ApiPageR.single _) fun b1 u1 hb1 hz1 hn1 => ?_
    refine ⟨_, hz1.cell (i := 1) rfl, ?_⟩
    refine at_call (Unl_c u1 L[i].Head) ?_
    rintro x u2 ⟨rfl, rfl⟩
    refine ⟨_, rfl, bif_not (fun hf => ?_) (fun ht => ⟨_, hz1.cell (i := 0) rfl, _, hz1.cell (i := 1) rfl, ?_⟩)⟩
    · have hall : ¬ L.all (fun p => unl p.Head) = true := fun e => by
        have := List.all_eq_true.1 e _ (List.getElem_mem hlt)
        rw [hf] at this
        cases this
      refine ⟨none, 0, [], ?_, Rd.nil _ _, by rw [if_neg hall], hn.new hn1⟩
      show _ = Value.tuple #[Value.slice none 0 0, _]
      rw [if_neg hall]
    · refine pushS_k (x := ⟨L[i].Line, L[i].Head⟩) (Owns.new hn1 hown) (by omega) ?_
      intro b ap cap u3 hb ho3 hk3 hap
      rw [w64 (by omega) (by omega)]
      refine ⟨L.length - (i + 1), by omega, i + 1, ap, cap, _, rfl, by omega, rfl, ?_, ?_, ?_, ?_⟩
      · exact (hn.new hn1).trans hk3 fun k hlt e => by have := hfr k e; omega
      · have e : seenOf (L.take (i + 1)) = seenOf (L.take i) ++ [⟨L[i].Line, L[i].Head⟩] := by
          rw [List.take_add_one, hg]; unfold seenOf; rw [List.map_append]; rfl
        rw [e]
        exact ho3
      · intro k hk
        rcases hap k hk with e | e
        · exact hfr k e
        · have := (hn.new hn1).size; omega
      · rw [List.take_add_one, hg, List.all_append, hok]
        simpa using ht
  · have hin : i = L.length := by omega
    subst hin
    rw [List.take_length] at hown hok
    rw [fetch_Seen_aft1_vc]
    have hsl : (seenOf L).length = L.length := by simp [seenOf]
    refine ⟨a', c', seenOf L, ?_, hown.rd, by rw [if_pos hok], hn⟩
    rw [if_pos hok, hsl]

theorem ownl_snoc (hs : List Int) (h : Int) : ownl (hs ++ [h]) = ownl hs ++ (if 0 < h % 256 then [h % 256 - 1] else []) := by
  unfold ownl
  rw [List.filter_append, List.map_append]
  congr 1
  by_cases e : 0 < h % 256 <;> simp [e]

theorem FOwners_c {w : World} {a : Option Addr} {n c : Nat} {L : List ApiPageR} (h : PgsAt w a n L) (h4 : L.length ≤ 900000) : Does 36 [.slice a n c] w fun x w' => ∃ (a' : Option Addr) (c' : Nat) (l : List Int), x = .slice a' l.length c' ∧ l = rowl (heads L) 255 ∧ Rd w' a' (is l) ∧ New w w' := by
  have hl := h.len
  subst hl
  refine does Tryz.func36 ?_
  rw [fetch_Owners_vc]
  refine loop_rule mix (fun m env u => ∃ (i : Nat) (a' : Option Addr) (n' c' : Nat) (jj : List Value), m = L.length - i ∧ i ≤ L.length ∧ env = fetch_Owners_env1 a' n' c' a L.length c L.length i jj ∧ New w u ∧ Owns u 3 1 a' n' c' (is (ownl (heads (L.take i)))) ∧ (∀ k, isB a' k → w.heap.size ≤ k) ∧ n' ≤ i) L.length
    ⟨0, none, 0, 0, _, by omega, by omega, rfl, Keep.refl _ _, Owns.nil _ _ _, nope _, by omega⟩ ?_
  rintro m env u ⟨i, a', n', c', jj, rfl, hi, rfl, hn, hown, hfr, hni⟩
  rw [fetch_Owners_loop1_body]
  refine bif_dec (fun hp => ?_) (fun hp => ?_)
  · have hlt : i < L.length := by omega
    have hg : L[i]? = some L[i] := List.getElem?_eq_getElem hlt
    have hstep : heads (L.take (i + 1)) = heads (L.take i) ++ [L[i].Head] := by rw [List.take_add_one, hg]; unfold heads; rw [List.map_append]; rfl
    have hin := ow_in L[i].Head
    refine rd_rec (cells := ApiPageR.cells) ApiPageR.len (by omega) (h.rd.new hn) hg rfl rfl fun b o hcc _ => ApiPageR.mk_ex L[i] ⟨hcc, ?_⟩
    refine box_k (vs := L[i].cells) rfl (ApiPageR.single _) fun b1 u1 hb1 hz1 hn1 => ?_
    refine ⟨_, hz1.cell (i := 1) rfl, ?_⟩
    refine at_call (Split_h u1 L[i].Head) ?_
    rintro x u2 ⟨rfl, rfl⟩
    have how : IntKind.i64.wrap (band .u64 L[i].Head 255) = L[i].Head % 256 := by
      rw [ow_eq (h.u64 _ (List.getElem_mem hlt))]
      exact w64 (by omega) (by omega)
    rw [how]
    refine ⟨_, _, rfl, bif_dec (fun h0 => ?_) (fun h0 => ?_)⟩
    · refine pushI_k (Owns.new hn1 hown) (by omega) ?_
      intro b ap cap u3 hb ho3 hk3 hap
      rw [w64 (x := (i : Int) + 1) (by omega) (by omega)]
      rw [w64 (by omega) (by omega)] at ho3
      refine ⟨L.length - (i + 1), by omega, i + 1, ap, n' + 1, cap, _, rfl, by omega, rfl, ?_, ?_, ?_, by omega⟩
      · exact (hn.new hn1).trans hk3 fun k hlt e => by have := hfr k e; omega
      · rw [hstep, ownl_snoc, if_pos h0]
        exact ho3
      · intro k hk
        rcases hap k hk with e | e
        · exact hfr k e
        · have := (hn.new hn1).size; omega
    · rw [w64 (x := (i : Int) + 1) (by omega) (by omega)]
      refine ⟨L.length - (i + 1), by omega, i + 1, a', n', c', _, rfl, by omega, rfl, hn.new hn1, ?_, hfr, by omega⟩
      rw [hstep, ownl_snoc, if_neg h0, List.append_nil]
      exact Owns.new hn1 hown
  · have hin : i = L.length := by omega
    subst hin
    rw [List.take_length] at hown
    rw [fetch_Owners_aft1_vc]
    have hlen : (ownl (heads L)).length = n' := by have := hown.1; simp [is] at this; exact this
    refine at_call (Sort_c hown (by omega)) ?_
    rintro x u1 ⟨rfl, ho1, hk1⟩
    refine ⟨rfl, ?_⟩
    refine at_call (Compact_c ho1 (by unfold srt; rw [List.length_mergeSort]; omega)) ?_
    rintro x u2 ⟨rfl, ho2, hk2⟩
    refine ⟨_, _, _, rfl, a', c', Lib.compact (srt (ownl (heads L))), rfl, own_eq _, ho2.rd, ?_⟩
    exact (hn.trans hk1 fun k hlt e => by have := hfr k e; omega).trans hk2 fun k hlt e => by have := hfr k e; omega

theorem rowl_succ (hs : List Int) (m : Nat) : rowl hs (m + 1) = rowl hs m ++ (if (hs.any fun h => decide (h % 256 = (m : Int) + 1)) = true then [(m : Int)] else []) := by
  unfold rowl
  rw [List.range_succ, List.filter_append, List.map_append]
  congr 1
  by_cases e : (hs.any fun h => decide (h % 256 = (m : Int) + 1)) = true
  · rw [if_pos e]
    simp only [List.filter_cons, e, List.filter_nil, if_true, List.map_cons, List.map_nil]
  · rw [if_neg e]
    simp only [List.filter_cons, e, Bool.false_eq_true, List.filter_nil, if_false, List.map_nil]

theorem rowl_le (hs : List Int) (m : Nat) : (rowl hs m).length ≤ m := by
  unfold rowl
  rw [List.length_map]
  exact Nat.le_trans (List.length_filter_le _ _) (by simp)

set_option maxRecDepth 100000 in
set_option maxHeartbeats 1000000 in
theorem ROwners_c {w : World} {a : Option Addr} {n c : Nat} {L : List ApiPageR} (h : PgsAt w a n L) : Does 37 [.slice a n c] w fun x w' => ∃ (a' : Option Addr) (c' : Nat) (l : List Int), x = .slice a' l.length c' ∧ l = rowl (heads L) 255 ∧ Rd w' a' (is l) ∧ New w w' := by
  have hl := h.len
  subst hl
  have hfew := h.few
  refine does Tryz.func37 ?_
  rw [bodegaref9_Owners_vc]
  rintro b1 w1 hb1 hw1
  obtain ⟨hz1, hn1⟩ := box_new hb1 hw1
  have hz1 : Blk w1 b1 (bs (List.replicate 256 false)) 206 := hz1
  clear hw1
  refine loop_rule mix (fun m env u => ∃ (i : Nat) (B : List Bool) (jj : List Value), m = L.length - i ∧ i ≤ L.length ∧ env = bodegaref9_Owners_env1 a L.length c ⟨b1, 0, none⟩ i jj ∧ New w u ∧ Blk u b1 (bs B) 206 ∧ B.length = 256 ∧ ∀ k : Nat, k < 256 → B[k]? = some ((heads (L.take i)).any fun h => decide (h % 256 = (k : Int)))) L.length
    ⟨0, List.replicate 256 false, _, by omega, by omega, rfl, hn1, hz1, by simp, fun k hk => by rw [List.getElem?_replicate, if_pos hk]; rfl⟩ ?_
  rintro m env u ⟨i, B, jj, rfl, hi, rfl, hn, hB, hBl, hBk⟩
  rw [bodegaref9_Owners_loop1_body]
  refine bif_dec (fun hp => ?_) (fun hp => ?_)
  · have hlt : i < L.length := by omega
    have hg : L[i]? = some L[i] := List.getElem?_eq_getElem hlt
    have hstep : heads (L.take (i + 1)) = heads (L.take i) ++ [L[i].Head] := by rw [List.take_add_one, hg]; unfold heads; rw [List.map_append]; rfl
    have hin := ow_in L[i].Head
    refine rd_rec (cells := ApiPageR.cells) ApiPageR.len (by omega) (h.rd.new hn) hg rfl rfl fun b o _ hcc => ⟨_, hcc 1 _ rfl, ?_⟩
    rw [ow_eq (h.u64 _ (List.getElem_mem hlt))]
    refine idxA_mk hin.1 (by omega) ?_
    refine setv_k (b := b1) hB (o := 0 + (L[i].Head % 256).toNat * 1) (by simp [bs, hBl]; omega) fun u2 hB2 hk2 => ?_
    rw [bs_set] at hB2
    rw [w64 (x := (i : Int) + 1) (by omega) (by omega)]
    refine ⟨L.length - (i + 1), by omega, i + 1, _, _, rfl, by omega, rfl, hn.trans hk2 fun k hlt e => by omega, hB2, by simp [hBl], fun k hk => ?_⟩
    rw [hstep, List.any_append, List.getElem?_set]
    by_cases e : 0 + (L[i].Head % 256).toNat * 1 = k
    · rw [if_pos e, if_pos (by omega)]
      have : L[i].Head % 256 = (k : Int) := by omega
      simp [this]
    · rw [if_neg e, hBk k hk]
      have : ¬ L[i].Head % 256 = (k : Int) := by omega
      simp [this]
  · have hin : i = L.length := by omega
    subst hin
    rw [List.take_length] at hBk
    rw [bodegaref9_Owners_aft1_vc]
    clear hp hi
    refine loop_rule mix (fun m env z => ∃ (i : Nat) (a' : Option Addr) (n' c' : Nat) (jj : List Value), m = 255 - i ∧ i ≤ 255 ∧ env = bodegaref9_Owners_env2 ⟨b1, 0, none⟩ a' n' c' ((i : Int) + 1) jj ∧ New w z ∧ Blk z b1 (bs B) 206 ∧ Owns z 3 1 a' n' c' (is (rowl (heads L) i)) ∧ (∀ k, isB a' k → b1 < k)) 255
      ⟨0, none, 0, 0, _, by omega, by omega, rfl, hn, hB, Owns.nil _ _ _, fun k hk => absurd hk (not_isB_none k)⟩ ?_
    clear hn hB jj
    rintro m env z ⟨i, a', n', c', jj, rfl, hi, rfl, hn, hB, hown, hfr⟩
    have hlen : (rowl (heads L) i).length = n' := by have := hown.1; simp [is] at this; exact this
    have hle := rowl_le (heads L) i
    rw [bodegaref9_Owners_loop2_body]
    refine bif_dec (fun hq => ?_) (fun hq => ?_)
    · have hb := hBk (i + 1) (by omega)
      have hcell : (bs B)[i + 1]? = some (.bool ((heads L).any fun h => decide (h % 256 = ((i + 1 : Nat) : Int)))) := by simp [bs, hb]
      have hc2 : z.cell? ⟨b1, 0 + ((i : Int) + 1).toNat * 1, none⟩ = some (.bool ((heads L).any fun h => decide (h % 256 = ((i + 1 : Nat) : Int)))) := by
        rw [show 0 + ((i : Int) + 1).toNat * 1 = i + 1 by omega]
        exact hB.cell hcell
      refine idxA_mk (by omega) (by omega) ⟨_, hc2, bif_b (fun ht => ?_) (fun hf => ?_)⟩
      · refine pushI_k hown (by omega) ?_
        intro b ap cap z3 hb3 ho3 hk3 hap
        have hzl := hB.lt
        rw [w64 (x := (i : Int) + 1 + 1) (by omega) (by omega)]
        rw [w64 (by omega) (by omega)] at ho3
        refine ⟨255 - (i + 1), by omega, i + 1, ap, n' + 1, cap, _, rfl, by omega, by push_cast; rfl, ?_, ?_, ?_, ?_⟩
        · exact hn.trans hk3 fun k hlt e => by have := hfr k e; omega
        · exact hk3.blk hB fun e => by have := hfr _ e; omega
        · rw [rowl_succ, if_pos (by simpa using ht)]
          have e : (i : Int) + 1 - 1 = (i : Int) := by omega
          rw [e] at ho3
          exact ho3
        · intro k hk
          rcases hap k hk with e | e
          · exact hfr k e
          · omega
      · rw [w64 (x := (i : Int) + 1 + 1) (by omega) (by omega)]
        refine ⟨255 - (i + 1), by omega, i + 1, a', n', c', _, rfl, by omega, by push_cast; rfl, hn, hB, ?_, hfr⟩
        rw [rowl_succ, if_neg (by simpa using hf), List.append_nil]
        exact hown
    · have hin : i = 255 := by omega
      subst hin
      rw [bodegaref9_Owners_aft2_vc]
      exact ⟨a', c', rowl (heads L) 255, by rw [hlen], rfl, hown.rd, hn⟩

theorem SameInts_c {w : World} {a b : Option Addr} {c d : Nat} {l : List Int} (h1 : Rd w a (is l)) (h2 : Rd w b (is l)) (hl : l.length ≤ 1000000) : Does 35 [.slice a l.length c, .slice b l.length d] w fun x w' => x = .bool true ∧ New w w' := by
  refine does Tryz.func35 ?_
  rw [bodegahand_SameInts_vc]
  refine bif_bne (fun h => absurd rfl h) (fun _ => ?_)
  refine loop_rule mix (fun m env u => ∃ (i : Nat) (jj : List Value), m = l.length - i ∧ i ≤ l.length ∧ env = bodegahand_SameInts_env1 a l.length c b l.length d i jj ∧ New w u) l.length
    ⟨0, _, by omega, by omega, rfl, Keep.refl _ _⟩ ?_
  rintro m env u ⟨i, jj, rfl, hi, rfl, hn⟩
  rw [bodegahand_SameInts_loop1_body]
  refine bif_dec (fun hp => ?_) (fun hp => ?_)
  · have hg : l[i]? = some l[i] := List.getElem?_eq_getElem (by omega)
    rintro u1 hu1
    have hn1 : New u u1 := by rw [hu1]; exact new_drew _
    clear hu1
    refine ⟨fun y => New u1 y, Keep.refl _ _, ?_⟩
    refine rd_i (h1.new (hn.new hn1)) hg rfl rfl fun b o hc => ⟨_, fun y hy => hc y hy, ?_⟩
    refine rd_i (h2.new (hn.new hn1)) hg rfl rfl fun b o hc => ⟨_, fun y hy => hc y hy, bif_bne (fun e => absurd rfl e) (fun _ => ?_)⟩
    rw [w64 (by omega) (by omega)]
    exact ⟨l.length - (i + 1), by omega, i + 1, _, rfl, by omega, rfl, hn.new hn1⟩
  · rw [bodegahand_SameInts_aft1_vc]
    exact ⟨rfl, hn⟩
end Go.Proofs.YtjifihffjmbjfaaGreat
