/- A proposer that is alone on the fabric: its whole run. -/
import Derived.Test.YteaknokogenndaaGreatLone3
set_option linter.unusedVariables false
namespace Go.Proofs.YteaknokogenndaaGreat
open Go.Eng

/-! ### What it asks, step by step -/

section
variable {j : Job} {a : Nat} {N : List NodeS} {b : Int}

theorem readAsk_get (j : Job) {k : Nat} (hk : k < j.nodes.toNat) : (readAsk j)[k]? = some (rdVerb k j.at_) := by
  simp [readAsk, hk]

theorem readAsk_len (j : Job) : (readAsk j).length = j.nodes.toNat := by simp [readAsk]

theorem fit_read (hn : j.nodes = N.length) : fitL (readAsk j) (N.map (rep a)) = true := by
  refine fitL_of (by rw [readAsk_len]; simp; omega) fun k v d hv hd => ?_
  have hk : k < j.nodes.toNat := by rw [← readAsk_len]; exact (List.getElem?_eq_some_iff.1 hv).1
  rw [readAsk_get j hk] at hv
  cases hv
  rw [List.getElem?_map] at hd
  cases hn : N[k]? with
  | none => rw [hn] at hd; cases hd
  | some n =>
    rw [hn] at hd
    cases hd
    unfold rep fitP
    cases n.down <;> rfl

theorem fit_swap (nx : Int → Int) (l : List Acc) : fitL (swapAsk j nx l) (l.map fun (x : Acc) => (⟨0, [x.word]⟩ : Done)) = true := by
  refine fitL_of (by simp [swapAsk]) fun k v d hv hd => ?_
  unfold swapAsk at hv
  rw [List.getElem?_map] at hv hd
  cases hn : l[k]? with
  | none => rw [hn] at hd; cases hd
  | some x =>
    rw [hn] at hv hd
    cases hv
    cases hd
    rfl

theorem p1 (hv : j.valid = 0) : pnext j [] = (readAsk j, out0, false) := by
  rw [pnext_ok j [] hv]
  have h0 : 0 < (readAsk j).length := by rw [readAsk_len]; have := (jvalid_zero hv).1; omega
  unfold run1
  rw [batch_nil h0]
  rfl

/-- The proposals that a lone proposer makes. -/
def candsOf (a : Nat) (b : Int) (N : List NodeS) : List Acc := candOf b (upsFrom a 0 N)
def promOf (a : Nat) (b : Int) (N : List NodeS) : List Acc := (candsOf a b N).map fun (x : Acc) => (⟨x.node, promiseW b x.word⟩ : Acc)
def valOf (a : Nat) (b : Int) (N : List NodeS) (v : Int) : Int := valueGo (promOf a b N) v 0
def accOf (a : Nat) (b : Int) (N : List NodeS) (v : Int) : Int := cwOf b b (valOf a b N v)

theorem prom_len : (promOf a b N).length = (candsOf a b N).length := by simp [promOf]

theorem judge_code (n x y g : Int) : (judge n x y g).code = if x < majority n then 9 else if y < majority n then 8 else 0 := by
  unfold judge
  split
  · rfl
  · split <;> rfl

theorem p2 (hv : j.valid = 0) (hn : j.nodes = N.length) (hb : b = ballot j.round j.client) :
    ∃ g, run1 j b 0 [N.map (rep a)] = (if (judge j.nodes (upsFrom a 0 N).length (candsOf a b N).length g).code ≠ 0 then ⟨[], none, false, judge j.nodes (upsFrom a 0 N).length (candsOf a b N).length g⟩ else run2 j b g [] (candsOf a b N)) ∧
      ∀ G, run1 j b 0 (N.map (rep a) :: G) = (if (judge j.nodes (upsFrom a 0 N).length (candsOf a b N).length g).code ≠ 0 then ⟨G, none, false, judge j.nodes (upsFrom a 0 N).length (candsOf a b N).length g⟩ else run2 j b g G (candsOf a b N)) := by
  have h0 : 0 < (readAsk j).length := by rw [readAsk_len]; have := (jvalid_zero hv).1; omega
  obtain ⟨g, hg⟩ := readGo_ups a N 0 [] 0
  have key : ∀ G, run1 j b 0 (N.map (rep a) :: G) = (if (judge j.nodes (upsFrom a 0 N).length (candsOf a b N).length g).code ≠ 0 then ⟨G, none, false, judge j.nodes (upsFrom a 0 N).length (candsOf a b N).length g⟩ else run2 j b g G (candsOf a b N)) := by
    intro G
    unfold run1
    rw [batch_cons h0 (fit_read hn)]
    dsimp only
    rw [hg]
    dsimp only
    rw [List.nil_append, if_neg (by simp)]
    rfl
  exact ⟨g, key [], key⟩

theorem run2_ask {g : Int} {K : List Acc} (hK : 0 < K.length) : run2 j b g [] K = ⟨[], some (swapAsk j (promiseW b) K), false, out0⟩ := by
  unfold run2
  rw [batch_nil (by simpa [swapAsk] using hK)]
  rfl

theorem run2_go {g : Int} {K : List Acc} {G : List (List Done)} (hK : 0 < K.length) (hm : majority j.nodes ≤ K.length) :
    run2 j b g ((K.map fun (x : Acc) => (⟨0, [x.word]⟩ : Done)) :: G) K = run3 j b g G (K.map fun (x : Acc) => (⟨x.node, promiseW b x.word⟩ : Acc)) := by
  unfold run2
  rw [batch_cons (by simpa [swapAsk] using hK) (fit_swap _ K)]
  dsimp only
  rw [swap_all]
  dsimp only
  have hj : (judge j.nodes ((0 + K.length : Nat) : Int) (([] ++ K.map fun (x : Acc) => (⟨x.node, promiseW b x.word⟩ : Acc)).length : Nat) g).code = 0 := by
    rw [judge_code, if_neg (by omega), if_neg (by simp; omega)]
  rw [if_neg (by simp), if_neg (fun e => e hj)]
  rfl

theorem run3_ask {g : Int} {P : List Acc} (hP : 0 < P.length) : run3 j b g [] P = ⟨[], some (swapAsk j (fun _ => cwOf b b (valueGo P j.value 0)) P), false, out0⟩ := by
  unfold run3
  dsimp only
  rw [batch_nil (by simpa [swapAsk] using hP)]
  rfl

theorem run3_go {g : Int} {P : List Acc} (hP : 0 < P.length) (hm : majority j.nodes ≤ P.length) : run3 j b g [P.map fun (x : Acc) => (⟨0, [x.word]⟩ : Done)] P = ⟨[], none, false, ⟨0, valueGo P j.value 0, 0⟩⟩ := by
  unfold run3
  dsimp only
  rw [batch_cons (by simpa [swapAsk] using hP) (fit_swap _ P)]
  dsimp only
  rw [swap_all]
  dsimp only
  have hj : (judge j.nodes ((0 + P.length : Nat) : Int) (([] ++ P.map fun (x : Acc) => (⟨x.node, cwOf b b (valueGo P j.value 0)⟩ : Acc)).length : Nat) g).code = 0 := by
    rw [judge_code, if_neg (by omega), if_neg (by simp; omega)]
  rw [if_neg (by simp), if_neg (fun e => e hj)]

theorem maj_pos (hv : j.valid = 0) : 1 ≤ majority j.nodes := by
  have := (jvalid_zero hv).1
  unfold majority
  rw [if_neg (by omega)]
  omega

theorem p2_out (hv : j.valid = 0) (hn : j.nodes = N.length) (hb : b = ballot j.round j.client) (hc : ¬ ((majority j.nodes ≤ (upsFrom a 0 N).length) ∧ (majority j.nodes ≤ (candsOf a b N).length))) :
    ∃ o, pnext j [N.map (rep a)] = ([], o, true) ∧ o.code = (if ((upsFrom a 0 N).length : Int) < majority j.nodes then 9 else 8) := by
  obtain ⟨g, h1, _⟩ := p2 (a := a) (N := N) hv hn hb
  have hcode : (judge j.nodes (upsFrom a 0 N).length (candsOf a b N).length g).code = (if ((upsFrom a 0 N).length : Int) < majority j.nodes then 9 else 8) := by
    rw [judge_code]
    split
    · rfl
    · rw [if_pos (by omega)]
  refine ⟨judge j.nodes (upsFrom a 0 N).length (candsOf a b N).length g, ?_, hcode⟩
  rw [pnext_ok j _ hv, ← hb, h1, if_pos (by rw [hcode]; split <;> decide)]
  rfl

theorem p2_ask (hv : j.valid = 0) (hn : j.nodes = N.length) (hb : b = ballot j.round j.client) (h1 : majority j.nodes ≤ (upsFrom a 0 N).length) (h2 : majority j.nodes ≤ (candsOf a b N).length) :
    pnext j [N.map (rep a)] = (swapAsk j (promiseW b) (candsOf a b N), out0, false) := by
  obtain ⟨g, hg, _⟩ := p2 (a := a) (N := N) hv hn hb
  have hm := maj_pos hv
  have hcode : (judge j.nodes (upsFrom a 0 N).length (candsOf a b N).length g).code = 0 := by rw [judge_code, if_neg (by omega), if_neg (by omega)]
  rw [pnext_ok j _ hv, ← hb, hg, if_neg (fun e => e hcode), run2_ask (by omega)]

theorem p3_ask (hv : j.valid = 0) (hn : j.nodes = N.length) (hb : b = ballot j.round j.client) (h1 : majority j.nodes ≤ (upsFrom a 0 N).length) (h2 : majority j.nodes ≤ (candsOf a b N).length) :
    pnext j [N.map (rep a), (candsOf a b N).map fun (x : Acc) => (⟨0, [x.word]⟩ : Done)] = (swapAsk j (fun _ => accOf a b N j.value) (promOf a b N), out0, false) := by
  obtain ⟨g, _, hg⟩ := p2 (a := a) (N := N) hv hn hb
  have hm := maj_pos hv
  have hcode : (judge j.nodes (upsFrom a 0 N).length (candsOf a b N).length g).code = 0 := by rw [judge_code, if_neg (by omega), if_neg (by omega)]
  rw [pnext_ok j _ hv, ← hb, hg, if_neg (fun e => e hcode), run2_go (by omega) h2]
  show (match (run3 j b g [] (promOf a b N)).ask with | some vs => (vs, out0, false) | none => _) = _
  rw [run3_ask (by rw [prom_len]; omega)]
  rfl

theorem p4_out (hv : j.valid = 0) (hn : j.nodes = N.length) (hb : b = ballot j.round j.client) (h1 : majority j.nodes ≤ (upsFrom a 0 N).length) (h2 : majority j.nodes ≤ (candsOf a b N).length) :
    pnext j [N.map (rep a), (candsOf a b N).map fun (x : Acc) => (⟨0, [x.word]⟩ : Done), (promOf a b N).map fun (x : Acc) => (⟨0, [x.word]⟩ : Done)] = ([], ⟨0, valOf a b N j.value, 0⟩, true) := by
  obtain ⟨g, _, hg⟩ := p2 (a := a) (N := N) hv hn hb
  have hm := maj_pos hv
  have hcode : (judge j.nodes (upsFrom a 0 N).length (candsOf a b N).length g).code = 0 := by rw [judge_code, if_neg (by omega), if_neg (by omega)]
  rw [pnext_ok j _ hv, ← hb, hg, if_neg (fun e => e hcode), run2_go (by omega) h2]
  have h3 : run3 j b g [(promOf a b N).map fun (x : Acc) => (⟨0, [x.word]⟩ : Done)] (promOf a b N) = ⟨[], none, false, ⟨0, valOf a b N j.value, 0⟩⟩ := run3_go (by rw [prom_len]; omega) (by rw [prom_len]; omega)
  show (match (run3 j b g [(promOf a b N).map fun (x : Acc) => (⟨0, [x.word]⟩ : Done)] (promOf a b N)).ask with | some vs => (vs, out0, false) | none => if (run3 j b g [(promOf a b N).map fun (x : Acc) => (⟨0, [x.word]⟩ : Done)] (promOf a b N)).wrong || decide (0 < (run3 j b g [(promOf a b N).map fun (x : Acc) => (⟨0, [x.word]⟩ : Done)] (promOf a b N)).got.length) then ([], ⟨6, 0, 0⟩, true) else ([], (run3 j b g [(promOf a b N).map fun (x : Acc) => (⟨0, [x.word]⟩ : Done)] (promOf a b N)).out, true)) = _
  rw [h3]
  rfl
end
end Go.Proofs.YteaknokogenndaaGreat
