/- The plain law behind PaxosAgrees: the stages of a proposer. -/
import Derived.Test.YteaknokogenndaaGreatAgr2
set_option linter.unusedVariables false
namespace Go.Proofs.YteaknokogenndaaGreat
open Go.Eng

/-! ### What replies give -/

theorem readGo_spec : ∀ (ds : List Done) (i : Nat) (acc : List Acc) (g : Int), ∃ S : List Acc, (readGo i ds acc g).1 = acc ++ S ∧ S.Pairwise (fun x y => x.node < y.node) ∧ ∀ x ∈ S, (i : Int) ≤ x.node ∧ x.node < i + ds.length
  | [], i, acc, g => ⟨[], by simp [readGo], List.Pairwise.nil, fun x hx => by simp at hx⟩
  | d :: ds, i, acc, g => by
    unfold readGo
    split
    · obtain ⟨S, h1, h2, h3⟩ := readGo_spec ds (i + 1) (acc ++ [⟨i, wordOf d⟩]) (max g (cwP (wordOf d)))
      refine ⟨⟨i, wordOf d⟩ :: S, by rw [h1]; simp, List.pairwise_cons.2 ⟨fun y hy => ?_, h2⟩, fun x hx => ?_⟩
      · have := (h3 y hy).1
        show (i : Int) < y.node
        omega
      · rcases List.mem_cons.1 hx with rfl | hx
        · exact ⟨Int.le_refl _, by show (i : Int) < _; simp only [List.length_cons]; omega⟩
        · have := h3 x hx
          simp only [List.length_cons]
          omega
    · obtain ⟨S, h1, h2, h3⟩ := readGo_spec ds (i + 1) acc g
      refine ⟨S, h1, h2, fun x hx => ?_⟩
      have := h3 x hx
      simp only [List.length_cons]
      omega

theorem swapGo_spec (nx : Int → Int) : ∀ (l : List Acc) (ds : List Done) (n : Nat) (acc : List Acc) (g : Int), ∃ S : List Acc, (swapGo nx l ds n acc g).2.1 = acc ++ S ∧ (S.map Acc.node).Sublist (l.map Acc.node) ∧
    ∀ y ∈ S, ∃ (k : Nat) (x : Acc) (d : Done), l[k]? = some x ∧ ds[k]? = some d ∧ d.code = 0 ∧ wordOf d = x.word ∧ y = ⟨x.node, nx x.word⟩
  | [], ds, n, acc, g => ⟨[], by simp [swapGo], by simp, fun y hy => by simp at hy⟩
  | a :: l, [], n, acc, g => ⟨[], by simp [swapGo], by simp, fun y hy => by simp at hy⟩
  | a :: l, d :: ds, n, acc, g => by
    unfold swapGo
    have shift : ∀ {S : List Acc}, (∀ y ∈ S, ∃ (k : Nat) (x : Acc) (d : Done), l[k]? = some x ∧ ds[k]? = some d ∧ d.code = 0 ∧ wordOf d = x.word ∧ y = ⟨x.node, nx x.word⟩) →
        ∀ y ∈ S, ∃ (k : Nat) (x : Acc) (d' : Done), (a :: l)[k]? = some x ∧ (d :: ds)[k]? = some d' ∧ d'.code = 0 ∧ wordOf d' = x.word ∧ y = ⟨x.node, nx x.word⟩ := by
      intro S h y hy
      obtain ⟨k, x, d', h1, h2, h3⟩ := h y hy
      exact ⟨k + 1, x, d', by simpa using h1, by simpa using h2, h3⟩
    split
    · obtain ⟨S, h1, h2, h3⟩ := swapGo_spec nx l ds n acc g
      exact ⟨S, h1, by rw [List.map_cons]; exact h2.trans (List.sublist_cons_self _ _), shift h3⟩
    · rename_i hc
      split
      · obtain ⟨S, h1, h2, h3⟩ := swapGo_spec nx l ds (n + 1) acc (max g (cwP (wordOf d)))
        exact ⟨S, h1, by rw [List.map_cons]; exact h2.trans (List.sublist_cons_self _ _), shift h3⟩
      · rename_i hw
        have hw := Classical.not_not.1 hw
        obtain ⟨S, h1, h2, h3⟩ := swapGo_spec nx l ds (n + 1) (acc ++ [⟨a.node, nx (wordOf d)⟩]) g
        refine ⟨⟨a.node, nx (wordOf d)⟩ :: S, by rw [h1]; simp, by simpa using h2, fun y hy => ?_⟩
        rcases List.mem_cons.1 hy with rfl | hy
        · exact ⟨0, a, d, rfl, rfl, Classical.not_not.1 hc, hw, by rw [hw]⟩
        · exact shift h3 y hy

theorem valueGo_spec : ∀ (l : List Acc) (v g : Int), (valueGo l v g = v ∧ ∀ x ∈ l, cwA x.word ≤ g) ∨ ∃ x ∈ l, g < cwA x.word ∧ valueGo l v g = cwV x.word ∧ ∀ y ∈ l, cwA y.word ≤ cwA x.word
  | [], v, g => .inl ⟨rfl, fun x hx => by simp at hx⟩
  | a :: l, v, g => by
    unfold valueGo
    split
    · rename_i hlt
      rcases valueGo_spec l (cwV a.word) (cwA a.word) with ⟨h1, h2⟩ | ⟨x, hx, h1, h2, h3⟩
      · refine .inr ⟨a, List.mem_cons_self, hlt, h1, fun y hy => ?_⟩
        rcases List.mem_cons.1 hy with rfl | hy
        · exact Int.le_refl _
        · exact h2 y hy
      · refine .inr ⟨x, List.mem_cons_of_mem _ hx, by omega, h2, fun y hy => ?_⟩
        rcases List.mem_cons.1 hy with rfl | hy
        · omega
        · exact h3 y hy
    · rename_i hlt
      rcases valueGo_spec l v g with ⟨h1, h2⟩ | ⟨x, hx, h1, h2, h3⟩
      · refine .inl ⟨h1, fun y hy => ?_⟩
        rcases List.mem_cons.1 hy with rfl | hy
        · omega
        · exact h2 y hy
      · refine .inr ⟨x, List.mem_cons_of_mem _ hx, h1, h2, fun y hy => ?_⟩
        rcases List.mem_cons.1 hy with rfl | hy
        · omega
        · exact h3 y hy

/-! ### The next batch -/

def bal (j : Job) : Int := ballot j.round j.client
def Srt (l : List Acc) : Prop := l.Pairwise fun x y => x.node < y.node
theorem srt_map {l : List Acc} : Srt l ↔ (l.map Acc.node).Pairwise (· < ·) := by unfold Srt; rw [List.pairwise_map]

theorem Maj.of {n : Nat} {l : List Acc} {Q : Nat → Prop} {m : Int} (hs : Srt l) (hr : ∀ x ∈ l, 0 ≤ x.node ∧ x.node < n) (hq : ∀ x ∈ l, Q x.node.toNat) (hn : 1 ≤ n) (hm : majority n ≤ (l.length : Int)) : Maj n Q := by
  refine ⟨l.map Acc.node, srt_map.1 hs, fun x hx => ?_, ?_⟩
  · obtain ⟨y, hy, rfl⟩ := List.mem_map.1 hx
    exact ⟨hr y hy, hq y hy⟩
  · unfold majority at hm
    rw [if_neg (by omega)] at hm
    rw [List.length_map]
    omega

theorem pnext_none {j : Job} {G : List (List Done)} (hv : j.valid = 0) (ha : (run1 j (bal j) 0 G).ask = none) : ∃ o, pnext j G = ([], o, true) ∧ (o.code = 0 → o = (run1 j (bal j) 0 G).out) := by
  unfold bal at ha ⊢
  unfold pnext
  rw [if_neg (by omega)]
  dsimp only
  rw [ha]
  dsimp only
  split
  · exact ⟨_, rfl, fun h => by simp at h⟩
  · exact ⟨_, rfl, fun _ => rfl⟩

theorem pnext_some {j : Job} {G : List (List Done)} {vs : List Verb} (hv : j.valid = 0) (ha : (run1 j (bal j) 0 G).ask = some vs) : pnext j G = (vs, out0, false) := by
  unfold bal at ha
  unfold pnext
  rw [if_neg (by omega)]
  dsimp only
  rw [ha]

theorem judge_cases (n x y g : Int) : ((judge n x y g).code = 0 ∧ majority n ≤ y) ∨ (judge n x y g).code ≠ 0 := by
  rw [judge_code]
  by_cases h1 : x < majority n
  · rw [if_pos h1]; exact .inr (by decide)
  · rw [if_neg h1]
    by_cases h2 : y < majority n
    · rw [if_pos h2]; exact .inr (by decide)
    · rw [if_neg h2]; exact .inl ⟨rfl, by omega⟩

theorem batch_cases {vs : List Verb} (h0 : 0 < vs.length) (d : List Done) (G : List (List Done)) : (fitL vs d = true ∧ batch (d :: G) vs = ⟨d, true, G, none, false⟩) ∨ batch (d :: G) vs = ⟨[], false, d :: G, none, true⟩ := by
  unfold batch
  rw [if_neg (by omega)]
  dsimp only
  cases hf : fitL vs d with
  | true => exact .inl ⟨rfl, by simp⟩
  | false => exact .inr (by simp)

/-- After the words have been read. -/
structure S1 (j : Job) (d1 : List Done) (g0 : Int) (K : List Acc) : Prop where
  run : ∀ G, run1 j (bal j) 0 (d1 :: G) = run2 j (bal j) g0 G K
  srt : Srt K
  rng : ∀ x ∈ K, (0 ≤ x.node ∧ x.node < j.nodes) ∧ cwP x.word < bal j
  maj : majority j.nodes ≤ (K.length : Int)

theorem stage1 {j : Job} (hv : j.valid = 0) (d1 : List Done) : (∃ o, pnext j [d1] = ([], o, true) ∧ o.code ≠ 0) ∨ ∃ g0 K, S1 j d1 g0 K ∧ pnext j [d1] = (swapAsk j (promiseW (bal j)) K, out0, false) := by
  have hn := (jvalid_zero hv)
  have hm := maj_pos hv
  have h0 : 0 < (readAsk j).length := by rw [readAsk_len]; omega
  rcases batch_cases h0 d1 [] with ⟨hf, he⟩ | he
  · have hfl : d1.length = j.nodes.toNat := by
      unfold fitL at hf
      simp at hf
      rw [← hf.1, readAsk_len]
    have hrun : ∀ G, run1 j (bal j) 0 (d1 :: G) = if (judge j.nodes (readGo 0 d1 [] 0).1.length (candOf (bal j) (readGo 0 d1 [] 0).1).length (readGo 0 d1 [] 0).2).code ≠ 0 then ⟨G, none, false, judge j.nodes (readGo 0 d1 [] 0).1.length (candOf (bal j) (readGo 0 d1 [] 0).1).length (readGo 0 d1 [] 0).2⟩ else run2 j (bal j) (readGo 0 d1 [] 0).2 G (candOf (bal j) (readGo 0 d1 [] 0).1) := by
      intro G
      unfold run1
      rw [batch_cons h0 hf]
      dsimp only
      rw [if_neg (by simp)]
    rcases judge_cases j.nodes (readGo 0 d1 [] 0).1.length (candOf (bal j) (readGo 0 d1 [] 0).1).length (readGo 0 d1 [] 0).2 with ⟨h1, h2⟩ | h1
    · right
      obtain ⟨S, e1, e2, e3⟩ := readGo_spec d1 0 [] 0
      have hS : S1 j d1 (readGo 0 d1 [] 0).2 (candOf (bal j) (readGo 0 d1 [] 0).1) := by
        refine ⟨fun G => by rw [hrun, if_neg (by rw [h1]; simp)], ?_, fun x hx => ?_, h2⟩
        · rw [e1]; exact List.Pairwise.filter _ (by simpa using e2)
        · obtain ⟨a1, a2⟩ := List.mem_filter.1 hx
          rw [e1] at a1
          have := e3 x (by simpa using a1)
          exact ⟨by omega, by simpa using a2⟩
      refine ⟨_, _, hS, pnext_some hv ?_⟩
      rw [hS.run, run2_ask (by omega)]
    · left
      obtain ⟨o, a1, a2⟩ := pnext_none (G := [d1]) hv (by rw [hrun, if_pos h1])
      refine ⟨o, a1, fun hc => ?_⟩
      have := a2 hc
      rw [hrun, if_pos h1] at this
      rw [this] at hc
      exact h1 hc
  · left
    have hrun : run1 j (bal j) 0 [d1] = ⟨[d1], none, true, out0⟩ := by
      unfold run1
      rw [he]
      rfl
    refine ⟨⟨6, 0, 0⟩, ?_, by simp⟩
    unfold pnext
    rw [if_neg (by omega)]
    dsimp only
    unfold bal at hrun
    rw [hrun]
    rfl

/-- After the promises. -/
structure S2 (j : Job) (d1 d2 : List Done) (K : List Acc) (g1 : Int) (P : List Acc) : Prop where
  run : ∀ G, run1 j (bal j) 0 (d1 :: d2 :: G) = run3 j (bal j) g1 G P
  srt : Srt P
  src : ∀ y ∈ P, ∃ (k : Nat) (x : Acc) (d : Done), K[k]? = some x ∧ d2[k]? = some d ∧ d.code = 0 ∧ wordOf d = x.word ∧ y = ⟨x.node, promiseW (bal j) x.word⟩
  maj : majority j.nodes ≤ (P.length : Int)

theorem stage2 {j : Job} (hv : j.valid = 0) {d1 : List Done} {g0 : Int} {K : List Acc} (h : S1 j d1 g0 K) (d2 : List Done) : (∃ o, pnext j [d1, d2] = ([], o, true) ∧ o.code ≠ 0) ∨
    ∃ g1 P, S2 j d1 d2 K g1 P ∧ pnext j [d1, d2] = (swapAsk j (fun _ => cwOf (bal j) (bal j) (valueGo P j.value 0)) P, out0, false) := by
  have hm := maj_pos hv
  have hmj := h.maj
  have h0 : 0 < (swapAsk j (promiseW (bal j)) K).length := by simp only [swapAsk, List.length_map]; omega
  rcases batch_cases h0 d2 [] with ⟨hf, he⟩ | he
  · obtain ⟨S, e1, e2, e3⟩ := swapGo_spec (promiseW (bal j)) K d2 0 [] g0
    rw [List.nil_append] at e1
    have hrun : ∀ G, run1 j (bal j) 0 (d1 :: d2 :: G) = if (judge j.nodes (swapGo (promiseW (bal j)) K d2 0 [] g0).1 S.length (swapGo (promiseW (bal j)) K d2 0 [] g0).2.2).code ≠ 0 then ⟨G, none, false, judge j.nodes (swapGo (promiseW (bal j)) K d2 0 [] g0).1 S.length (swapGo (promiseW (bal j)) K d2 0 [] g0).2.2⟩ else run3 j (bal j) (swapGo (promiseW (bal j)) K d2 0 [] g0).2.2 G S := by
      intro G
      rw [h.run]
      unfold run2
      rw [batch_cons h0 hf]
      dsimp only
      rw [if_neg (by simp), e1]
    rcases judge_cases j.nodes (swapGo (promiseW (bal j)) K d2 0 [] g0).1 S.length (swapGo (promiseW (bal j)) K d2 0 [] g0).2.2 with ⟨h1, h2⟩ | h1
    · right
      have hS : S2 j d1 d2 K (swapGo (promiseW (bal j)) K d2 0 [] g0).2.2 S := by
        refine ⟨fun G => by rw [hrun, if_neg (by rw [h1]; simp)], srt_map.2 (List.Pairwise.sublist e2 (srt_map.1 h.srt)), e3, h2⟩
      refine ⟨_, _, hS, pnext_some hv ?_⟩
      rw [hS.run, run3_ask (by omega)]
    · left
      obtain ⟨o, a1, a2⟩ := pnext_none (G := [d1, d2]) hv (by rw [hrun, if_pos h1])
      refine ⟨o, a1, fun hc => ?_⟩
      have := a2 hc
      rw [hrun, if_pos h1] at this
      rw [this] at hc
      exact h1 hc
  · left
    have hrun : run1 j (bal j) 0 [d1, d2] = ⟨[d2], none, true, out0⟩ := by
      rw [h.run]
      unfold run2
      rw [he]
      rfl
    refine ⟨⟨6, 0, 0⟩, ?_, by simp⟩
    unfold pnext
    rw [if_neg (by omega)]
    dsimp only
    unfold bal at hrun
    rw [hrun]
    rfl

/-- After the acceptances. -/
theorem stage3 {j : Job} (hv : j.valid = 0) {d1 d2 : List Done} {K : List Acc} {g1 : Int} {P : List Acc} (h : S2 j d1 d2 K g1 P) (d3 : List Done) : ∃ o, pnext j [d1, d2, d3] = ([], o, true) ∧
    (o.code = 0 → o.value = valueGo P j.value 0 ∧ ∃ S : List Acc, Srt S ∧ majority j.nodes ≤ (S.length : Int) ∧ ∀ y ∈ S, ∃ (k : Nat) (x : Acc) (d : Done), P[k]? = some x ∧ d3[k]? = some d ∧ d.code = 0 ∧ wordOf d = x.word ∧ y.node = x.node) := by
  have hm := maj_pos hv
  have hmj := h.maj
  have h0 : 0 < (swapAsk j (fun _ => cwOf (bal j) (bal j) (valueGo P j.value 0)) P).length := by simp only [swapAsk, List.length_map]; omega
  rcases batch_cases h0 d3 [] with ⟨hf, he⟩ | he
  · obtain ⟨S, e1, e2, e3⟩ := swapGo_spec (fun _ => cwOf (bal j) (bal j) (valueGo P j.value 0)) P d3 0 [] g1
    rw [List.nil_append] at e1
    have hrun : run1 j (bal j) 0 [d1, d2, d3] = if (judge j.nodes (swapGo (fun _ => cwOf (bal j) (bal j) (valueGo P j.value 0)) P d3 0 [] g1).1 S.length (swapGo (fun _ => cwOf (bal j) (bal j) (valueGo P j.value 0)) P d3 0 [] g1).2.2).code ≠ 0 then ⟨[], none, false, judge j.nodes (swapGo (fun _ => cwOf (bal j) (bal j) (valueGo P j.value 0)) P d3 0 [] g1).1 S.length (swapGo (fun _ => cwOf (bal j) (bal j) (valueGo P j.value 0)) P d3 0 [] g1).2.2⟩ else ⟨[], none, false, ⟨0, valueGo P j.value 0, 0⟩⟩ := by
      rw [h.run]
      unfold run3
      dsimp only
      rw [batch_cons h0 hf]
      dsimp only
      rw [if_neg (by simp), e1]
    obtain ⟨o, a1, a2⟩ := pnext_none (G := [d1, d2, d3]) hv (by rw [hrun]; split <;> rfl)
    refine ⟨o, a1, fun hc => ?_⟩
    have ho := a2 hc
    rw [hrun] at ho
    rcases judge_cases j.nodes (swapGo (fun _ => cwOf (bal j) (bal j) (valueGo P j.value 0)) P d3 0 [] g1).1 S.length (swapGo (fun _ => cwOf (bal j) (bal j) (valueGo P j.value 0)) P d3 0 [] g1).2.2 with ⟨h1, h2⟩ | h1
    · rw [if_neg (by rw [h1]; simp)] at ho
      refine ⟨by rw [ho], S, srt_map.2 (List.Pairwise.sublist e2 (srt_map.1 h.srt)), h2, fun y hy => ?_⟩
      obtain ⟨k, x, d, b1, b2, b3, b4, b5⟩ := e3 y hy
      exact ⟨k, x, d, b1, b2, b3, b4, by rw [b5]⟩
    · rw [if_pos h1] at ho
      rw [ho] at hc
      exact absurd hc h1
  · have hrun : run1 j (bal j) 0 [d1, d2, d3] = ⟨[d3], none, true, out0⟩ := by
      rw [h.run]
      unfold run3
      dsimp only
      rw [he]
      rfl
    refine ⟨⟨6, 0, 0⟩, ?_, fun h => by simp at h⟩
    unfold pnext
    rw [if_neg (by omega)]
    dsimp only
    unfold bal at hrun
    rw [hrun]
    rfl
end Go.Proofs.YteaknokogenndaaGreat
